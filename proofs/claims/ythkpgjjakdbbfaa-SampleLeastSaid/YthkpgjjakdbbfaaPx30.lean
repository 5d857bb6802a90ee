/- What functions of the program return: each contract says so of one function, for every input at which its pure function yields. -/
import Derived.Test.YthkpgjjakdbbfaaPx0
import Derived.Test.YthkpgjjakdbbfaaPx23
import Derived.Test.YthkpgjjakdbbfaaPx29
namespace Go.Proofs.Ythkpgjjakdbbfaa.P
open Go.RowKit Go.Proofs.YthkpgjjakdbbfaaW.PrintWords Go.Proofs.YthkpgjjakdbbfaaW.PrintLast Go.Proofs.YthkpgjjakdbbfaaW.PrintMore
attribute [local go_sem] max2_int min2_int max_two min_two max_three min_three max_four min_four   -- for this text's walks alone
set_option linter.unusedVariables false
set_option linter.unusedSimpArgs false

def gangsawref04_Cmp.f (a0_0 : Int) (a0_1 : Int) (a1_0 : Int) (a1_1 : Int) : Option (Int) := (gangsawref04_times.f a0_0 a1_1).bind fun bt578 => ((gangsawref04_times.f a1_0 a0_1).bind fun bt581 => ((gangsawref04_minus.f bt581.1 bt581.2.1 bt581.2.2).bind fun bt584 => ((gangsawref04_plus.f bt578.1 bt578.2.1 bt578.2.2 bt584.1 bt584.2.1 bt584.2.2).bind fun bt587 => ((gangsawref04_wide_zero.f bt587.1 bt587.2.1 bt587.2.2).bind fun t591 => (if t591 = true then (some 0) else (if bt587.2.2 = true then (some (-1)) else (some 1)))))))
def gangsawref04_Cmp.T1 : Bool × List (List Nat × List Nat) := (true, [([], []), ([0], [0]), ([], []), ([2], [2]), ([1, 3], [1, 3]), ([], []), ([5], [5]), ([], []), ([7], [7]), ([6, 8, 4], [6, 8]), ([9, 9], [9]), ([4, 10, 10], [4, 10]), ([], []), ([12, 11, 11, 0, 1, 2, 3, 4, 5, 6, 7, 8, 9, 10, 11, 12], [11, 12])])
def gangsawref04_Cmp.B1 : List Nat := [0, 1, 0, 4, 15, 0, 32, 0, 128, 511, 1023, 2047, 0, 8191]
theorem gangsawref04_Cmp.tab1 : rtab .any (opsOf Try.f49 1) = gangsawref04_Cmp.T1 := by kernel_rfl
theorem gangsawref04_Cmp.bits1 : waitsOk gangsawref04_Cmp.T1.2 gangsawref04_Cmp.B1 = true := by kernel_rfl
set_option maxHeartbeats 8000000 in
set_option maxRecDepth 100000 in
theorem gangsawref04_Cmp.calls (a0_0 : Int) (a0_1 : Int) (a1_0 : Int) (a1_1 : Int) (r : Int) (w : World) (h : gangsawref04_Cmp.f a0_0 a0_1 a1_0 a1_1 = some r) :
  Calls Try.prog 49 #[.agg #[.int .i64 a0_0, .int .i64 a0_1], .agg #[.int .i64 a1_0, .int .i64 a1_1]] w fun e w' => e = .returned (.int .i64 r) ∧ Below w.heap.size w w' := by
 have hu33 := Try.underlying33
 have hu82 := Try.underlying82
 have HB := aK (Below.refl w.heap.size w)
 have H : ((gangsawref04_times.f a0_0 a1_1).bind fun bt578 => ((gangsawref04_times.f a1_0 a0_1).bind fun bt581 => ((gangsawref04_minus.f bt581.1 bt581.2.1 bt581.2.2).bind fun bt584 => ((gangsawref04_plus.f bt578.1 bt578.2.1 bt578.2.2 bt584.1 bt584.2.1 bt584.2.2).bind fun bt587 => ((gangsawref04_wide_zero.f bt587.1 bt587.2.1 bt587.2.2).bind fun t591 => (if t591 = true then (some 0) else (if bt587.2.2 = true then (some (-1)) else (some 1)))))))) = some r := h
 clear h
 replace H := Option.bind_eq_some_iff.mp H
 obtain ⟨⟨t578, t579, t580⟩, A30, H⟩ := H
 replace H : ((gangsawref04_times.f a1_0 a0_1).bind fun bt581 => ((gangsawref04_minus.f bt581.1 bt581.2.1 bt581.2.2).bind fun bt584 => ((gangsawref04_plus.f t578 t579 t580 bt584.1 bt584.2.1 bt584.2.2).bind fun bt587 => ((gangsawref04_wide_zero.f bt587.1 bt587.2.1 bt587.2.2).bind fun t591 => (if t591 = true then (some 0) else (if bt587.2.2 = true then (some (-1)) else (some 1))))))) = some r := H
 have A3 := aK A30
 clear A30
 replace H := Option.bind_eq_some_iff.mp H
 obtain ⟨⟨t581, t582, t583⟩, A40, H⟩ := H
 replace H : ((gangsawref04_minus.f t581 t582 t583).bind fun bt584 => ((gangsawref04_plus.f t578 t579 t580 bt584.1 bt584.2.1 bt584.2.2).bind fun bt587 => ((gangsawref04_wide_zero.f bt587.1 bt587.2.1 bt587.2.2).bind fun t591 => (if t591 = true then (some 0) else (if bt587.2.2 = true then (some (-1)) else (some 1)))))) = some r := H
 have A4 := aK A40
 clear A40
 replace H := Option.bind_eq_some_iff.mp H
 obtain ⟨⟨t584, t585, t586⟩, A50, H⟩ := H
 replace H : ((gangsawref04_plus.f t578 t579 t580 t584 t585 t586).bind fun bt587 => ((gangsawref04_wide_zero.f bt587.1 bt587.2.1 bt587.2.2).bind fun t591 => (if t591 = true then (some 0) else (if bt587.2.2 = true then (some (-1)) else (some 1))))) = some r := H
 have A5 := aK A50
 clear A50
 replace H := Option.bind_eq_some_iff.mp H
 obtain ⟨⟨t587, t588, t589⟩, A60, H⟩ := H
 replace H : ((gangsawref04_wide_zero.f t587 t588 t589).bind fun t591 => (if t591 = true then (some 0) else (if t589 = true then (some (-1)) else (some 1)))) = some r := H
 have A6 := aK A60
 clear A60
 replace H := Option.bind_eq_some_iff.mp H
 obtain ⟨t591, A70, H⟩ := H
 replace H : (if t591 = true then (some 0) else (if t589 = true then (some (-1)) else (some 1))) = some r := H
 have A7 := aK A70
 clear A70
 by_cases c8 : t591 = true
 ·subst c8
  have H1 : (some 0) = some r := by rw [if_pos rfl] at H; exact H
  clear H
  have H := H1
  clear H1
  obtain rfl := Option.some.inj H
  simp only [Option.some.injEq, Prod.mk.injEq] at H
  obtain ⟨rfl⟩ := H
  go_enter Try.func49, Try.ntmps49
  try go_wp2_with (first | ((with_reducible refine gate_dst (N := 2) rfl ?_); refine box_event ?hg (N := 2) ?hd (cs := #[.int .i64 a0_0, .int .i64 a0_1]) (t := 33) ?hr ?_; (case hd => rfl); (case hg => rfl); (case hr => first | (go_simp; done) | (go_simp; rfl)); intro gb576 hg w9 hbox hb; have n0_ := aK (yT (HB.out) hb); have n1_ := aK (hbox); have n2_ := aK ((by rw [hg]; exact (yZ (HB.out)) : w.heap.size ≤ gb576)); have n3_ := n2_; clear HB; have HB := n0_; have BK576 := n1_; have GW576 := n2_; have GE576 := n3_; clear n0_ n1_ n2_ n3_; clear hb hbox hg) | ((with_reducible refine gate_dst (N := 3) rfl ?_); refine box_event ?hg (N := 3) ?hd (cs := #[.int .i64 a1_0, .int .i64 a1_1]) (t := 33) ?hr ?_; (case hd => rfl); (case hg => rfl); (case hr => first | (go_simp; done) | (go_simp; rfl)); intro gb577 hg w10 hbox hb; have n0_ := aK (zB (g := gb576) (o := .cells #[.int .i64 a0_0, .int .i64 a0_1] 33 (0, 0)) (BK576.out) hb); have n1_ := aK (yT (HB.out) hb); have n2_ := aK (hbox); have n3_ := aK ((by rw [hg]; exact (yZ (HB.out)) : w.heap.size ≤ gb577)); have n4_ := n3_; have n5_ := aK ((by rw [hg]; exact Nat.ne_of_lt (blk_lt (g := gb576) (o := .cells #[.int .i64 a0_0, .int .i64 a0_1] 33 (0, 0)) (BK576.out)) : gb576 ≠ gb577)); have n6_ := aK ((by rw [hg]; exact Nat.ne_of_gt (blk_lt (g := gb576) (o := .cells #[.int .i64 a0_0, .int .i64 a0_1] 33 (0, 0)) (BK576.out)) : gb577 ≠ gb576)); clear BK576; clear HB; have BK576 := n0_; have HB := n1_; have BK577 := n2_; have GW577 := n3_; have GE577 := n4_; have NB576_577 := n5_; have NB577_576 := n6_; clear n0_ n1_ n2_ n3_ n4_ n5_ n6_; clear hb hbox hg))
  have n0_ := aK (zD BK576.out)
  have n1_ := aK (zD BK577.out)
  have n2_ := aK (yD HB.out)
  clear BK576
  clear BK577
  clear HB
  have BK576 := n0_
  have BK577 := n1_
  have HB := n2_
  clear n0_ n1_ n2_
  refine start_ (n := 14) (S := fun w' => w'.cell? ⟨gb576, 0, none⟩ = some (.int .i64 a0_0) ∧ w'.cell? ⟨gb576, 1, none⟩ = some (.int .i64 a0_1) ∧ w'.cell? ⟨gb577, 0, none⟩ = some (.int .i64 a1_0) ∧ w'.cell? ⟨gb577, 1, none⟩ = some (.int .i64 a1_1)) (ds := []) #[false, false, false, false, false, false, false, false, false, false, false, false, false, false] (by kernel_rfl) rfl rfl ⟨(zC BK576.out 0).trans rfl, (zC BK576.out 1).trans rfl, (zC BK577.out 0).trans rfl, (zC BK577.out 1).trans rfl⟩ (fun hHeld => ?_); refine with_tabW gangsawref04_Cmp.tab1 gangsawref04_Cmp.bits1 (fun HT_ HW_ => ?_)
  generalize w10.drew = w11 at BK576 BK577 HB hHeld ⊢
  refine pure_ (i := 0) (N := some 6) (v := ?_) (a' := ?_) #[true, false, false, false, false, false, false, false, false, false, false, false, false, false] rfl rfl (any_of HT_.out (by kernel_rfl)) (fun _ _ _ h => h) (Or.inl ⟨by rfl, ?_⟩) ?_ ?_
  rotate_left
  ·intro w'
   go_simp
   with_reducible rfl
  rotate_left
  ·simp only [Act.put, sA, sZ, sS, i64_w, i32_w]
   rfl
  refine pure_ (i := 2) (N := some 8) (v := ?_) (a' := ?_) #[true, false, true, false, false, false, false, false, false, false, false, false, false, false] rfl rfl (any_of HT_.out (by kernel_rfl)) (fun _ _ _ h => h) (Or.inl ⟨by rfl, ?_⟩) ?_ ?_
  rotate_left
  ·intro w'
   go_simp
   with_reducible rfl
  rotate_left
  ·simp only [Act.put, sA, sZ, sS, i64_w, i32_w]
   rfl
  refine pure_ (i := 5) (N := some 11) (v := ?_) (a' := ?_) #[true, false, true, false, false, true, false, false, false, false, false, false, false, false] rfl rfl (any_of HT_.out (by kernel_rfl)) (fun _ _ _ h => h) (Or.inl ⟨by rfl, ?_⟩) ?_ ?_
  rotate_left
  ·intro w'
   go_simp
   with_reducible rfl
  rotate_left
  ·simp only [Act.put, sA, sZ, sS, i64_w, i32_w]
   rfl
  refine pure_ (i := 7) (N := some 13) (v := ?_) (a' := ?_) #[true, false, true, false, false, true, false, true, false, false, false, false, false, false] rfl rfl (any_of HT_.out (by kernel_rfl)) (fun _ _ _ h => h) (Or.inl ⟨by rfl, ?_⟩) ?_ ?_
  rotate_left
  ·intro w'
   go_simp
   with_reducible rfl
  rotate_left
  ·simp only [Act.put, sA, sZ, sS, i64_w, i32_w]
   rfl
  refine take_ (i := 1) (N := some 7) (v := ?_) (a' := ?_) #[true, true, true, false, false, true, false, true, false, false, false, false, false, false] rfl rfl (take_ofW HT_.out HW_.out (by kernel_rfl)) (fun _ _ _ h => h) (Or.inl ⟨by rfl, ?_⟩) hHeld ?_ ?_
  rotate_left
  ·rintro w' ⟨s0, s1, s2, s3⟩
   go_simp
   with_reducible rfl
  rotate_left
  ·simp only [Act.put, sA, sZ, sS, i64_w, i32_w]
   rfl
  refine take_ (i := 3) (N := some 9) (v := ?_) (a' := ?_) #[true, true, true, true, false, true, false, true, false, false, false, false, false, false] rfl rfl (take_ofW HT_.out HW_.out (by kernel_rfl)) (fun _ _ _ h => h) (Or.inl ⟨by rfl, ?_⟩) hHeld ?_ ?_
  rotate_left
  ·rintro w' ⟨s0, s1, s2, s3⟩
   go_simp
   with_reducible rfl
  rotate_left
  ·simp only [Act.put, sA, sZ, sS, i64_w, i32_w]
   rfl
  refine take_ (i := 6) (N := some 12) (v := ?_) (a' := ?_) #[true, true, true, true, false, true, true, true, false, false, false, false, false, false] rfl rfl (take_ofW HT_.out HW_.out (by kernel_rfl)) (fun _ _ _ h => h) (Or.inl ⟨by rfl, ?_⟩) hHeld ?_ ?_
  rotate_left
  ·rintro w' ⟨s0, s1, s2, s3⟩
   go_simp
   with_reducible rfl
  rotate_left
  ·simp only [Act.put, sA, sZ, sS, i64_w, i32_w]
   rfl
  refine take_ (i := 8) (N := some 14) (v := ?_) (a' := ?_) #[true, true, true, true, false, true, true, true, true, false, false, false, false, false] rfl rfl (take_ofW HT_.out HW_.out (by kernel_rfl)) (fun _ _ _ h => h) (Or.inl ⟨by rfl, ?_⟩) hHeld ?_ ?_
  rotate_left
  ·rintro w' ⟨s0, s1, s2, s3⟩
   go_simp
   with_reducible rfl
  rotate_left
  ·simp only [Act.put, sA, sZ, sS, i64_w, i32_w]
   rfl
  refine join_ (σ := Nat) 1 #[true, true, true, true, true, true, true, true, true, true, true, true, true, false] (fun s_ => [(10, .agg #[.int .u64 t578, .int .u64 t579, .bool t580]), (15, .agg #[.int .u64 t581, .int .u64 t582, .bool t583]), (16, .agg #[.int .u64 t584, .int .u64 t585, .bool t586]), (17, .agg #[.int .u64 t587, .int .u64 t588, .bool t589]), (5, .pointer (some ⟨s_, 0, none⟩))]) (fun s_ w' => (w'.cell? ⟨gb576, 0, none⟩ = some (.int .i64 a0_0) ∧ w'.cell? ⟨gb576, 1, none⟩ = some (.int .i64 a0_1) ∧ w'.cell? ⟨gb577, 0, none⟩ = some (.int .i64 a1_0) ∧ w'.cell? ⟨gb577, 1, none⟩ = some (.int .i64 a1_1)) ∧ (w'.heap[gb576]? = some (.cells #[.int .i64 a0_0, .int .i64 a0_1] 33 (0, 0))) ∧ (w'.heap[gb577]? = some (.cells #[.int .i64 a1_0, .int .i64 a1_1] 33 (0, 0))) ∧ (w'.heap[s_]? = some (.cells #[.int .u64 0, .int .u64 0, .bool false] 82 (0, 0))) ∧ (w.heap.size ≤ s_) ∧ (w.heap.size ≤ s_) ∧ (gb576 ≠ s_) ∧ (s_ ≠ gb576) ∧ (gb577 ≠ s_) ∧ (s_ ≠ gb577) ∧ (Below w.heap.size w w')) ?_ ?_
  rotate_left
  ·intro hJ4_9_10_11_12
   refine join_ (σ := Unit) 2 #[true, true, true, true, true, true, true, true, true, true, true, true, false, false] (fun s_ => [(10, .agg #[.int .u64 t578, .int .u64 t579, .bool t580]), (15, .agg #[.int .u64 t581, .int .u64 t582, .bool t583]), (16, .agg #[.int .u64 t584, .int .u64 t585, .bool t586]), (17, .agg #[.int .u64 t587, .int .u64 t588, .bool t589])]) (fun s_ w' => (w'.cell? ⟨gb576, 0, none⟩ = some (.int .i64 a0_0) ∧ w'.cell? ⟨gb576, 1, none⟩ = some (.int .i64 a0_1) ∧ w'.cell? ⟨gb577, 0, none⟩ = some (.int .i64 a1_0) ∧ w'.cell? ⟨gb577, 1, none⟩ = some (.int .i64 a1_1)) ∧ (w'.heap[gb576]? = some (.cells #[.int .i64 a0_0, .int .i64 a0_1] 33 (0, 0))) ∧ (w'.heap[gb577]? = some (.cells #[.int .i64 a1_0, .int .i64 a1_1] 33 (0, 0))) ∧ (Below w.heap.size w w')) ?_ ?_
   rotate_left
   ·intro hJ4_9_10_11
    refine join_ (σ := Nat) 2 #[true, true, true, true, true, true, true, true, true, true, true, false, true, false] (fun s_ => [(10, .agg #[.int .u64 t578, .int .u64 t579, .bool t580]), (15, .agg #[.int .u64 t581, .int .u64 t582, .bool t583]), (16, .agg #[.int .u64 t584, .int .u64 t585, .bool t586]), (5, .pointer (some ⟨s_, 0, none⟩))]) (fun s_ w' => (w'.cell? ⟨gb576, 0, none⟩ = some (.int .i64 a0_0) ∧ w'.cell? ⟨gb576, 1, none⟩ = some (.int .i64 a0_1) ∧ w'.cell? ⟨gb577, 0, none⟩ = some (.int .i64 a1_0) ∧ w'.cell? ⟨gb577, 1, none⟩ = some (.int .i64 a1_1)) ∧ (w'.heap[gb576]? = some (.cells #[.int .i64 a0_0, .int .i64 a0_1] 33 (0, 0))) ∧ (w'.heap[gb577]? = some (.cells #[.int .i64 a1_0, .int .i64 a1_1] 33 (0, 0))) ∧ (w'.heap[s_]? = some (.cells #[.int .u64 0, .int .u64 0, .bool false] 82 (0, 0))) ∧ (w.heap.size ≤ s_) ∧ (w.heap.size ≤ s_) ∧ (gb576 ≠ s_) ∧ (s_ ≠ gb576) ∧ (gb577 ≠ s_) ∧ (s_ ≠ gb577) ∧ (Below w.heap.size w w')) ?_ ?_
    rotate_left
    ·intro hJ4_9_10_12
     refine join_ (σ := Unit) 3 #[true, true, true, true, true, true, true, true, true, true, true, false, false, false] (fun s_ => [(10, .agg #[.int .u64 t578, .int .u64 t579, .bool t580]), (15, .agg #[.int .u64 t581, .int .u64 t582, .bool t583]), (16, .agg #[.int .u64 t584, .int .u64 t585, .bool t586])]) (fun s_ w' => (w'.cell? ⟨gb576, 0, none⟩ = some (.int .i64 a0_0) ∧ w'.cell? ⟨gb576, 1, none⟩ = some (.int .i64 a0_1) ∧ w'.cell? ⟨gb577, 0, none⟩ = some (.int .i64 a1_0) ∧ w'.cell? ⟨gb577, 1, none⟩ = some (.int .i64 a1_1)) ∧ (w'.heap[gb576]? = some (.cells #[.int .i64 a0_0, .int .i64 a0_1] 33 (0, 0))) ∧ (w'.heap[gb577]? = some (.cells #[.int .i64 a1_0, .int .i64 a1_1] 33 (0, 0))) ∧ (Below w.heap.size w w')) ?_ ?_
     rotate_left
     ·intro hJ4_9_10
      refine join_ (σ := Nat) 3 #[true, true, true, true, true, true, true, true, true, true, false, false, true, false] (fun s_ => [(10, .agg #[.int .u64 t578, .int .u64 t579, .bool t580]), (15, .agg #[.int .u64 t581, .int .u64 t582, .bool t583]), (5, .pointer (some ⟨s_, 0, none⟩))]) (fun s_ w' => (w'.cell? ⟨gb576, 0, none⟩ = some (.int .i64 a0_0) ∧ w'.cell? ⟨gb576, 1, none⟩ = some (.int .i64 a0_1) ∧ w'.cell? ⟨gb577, 0, none⟩ = some (.int .i64 a1_0) ∧ w'.cell? ⟨gb577, 1, none⟩ = some (.int .i64 a1_1)) ∧ (w'.heap[gb576]? = some (.cells #[.int .i64 a0_0, .int .i64 a0_1] 33 (0, 0))) ∧ (w'.heap[gb577]? = some (.cells #[.int .i64 a1_0, .int .i64 a1_1] 33 (0, 0))) ∧ (w'.heap[s_]? = some (.cells #[.int .u64 0, .int .u64 0, .bool false] 82 (0, 0))) ∧ (w.heap.size ≤ s_) ∧ (w.heap.size ≤ s_) ∧ (gb576 ≠ s_) ∧ (s_ ≠ gb576) ∧ (gb577 ≠ s_) ∧ (s_ ≠ gb577) ∧ (Below w.heap.size w w')) ?_ ?_
      rotate_left
      ·intro hJ4_9_12
       refine join_ (σ := Unit) 4 #[true, true, true, true, true, true, true, true, true, true, false, false, false, false] (fun s_ => [(10, .agg #[.int .u64 t578, .int .u64 t579, .bool t580]), (15, .agg #[.int .u64 t581, .int .u64 t582, .bool t583])]) (fun s_ w' => (w'.cell? ⟨gb576, 0, none⟩ = some (.int .i64 a0_0) ∧ w'.cell? ⟨gb576, 1, none⟩ = some (.int .i64 a0_1) ∧ w'.cell? ⟨gb577, 0, none⟩ = some (.int .i64 a1_0) ∧ w'.cell? ⟨gb577, 1, none⟩ = some (.int .i64 a1_1)) ∧ (w'.heap[gb576]? = some (.cells #[.int .i64 a0_0, .int .i64 a0_1] 33 (0, 0))) ∧ (w'.heap[gb577]? = some (.cells #[.int .i64 a1_0, .int .i64 a1_1] 33 (0, 0))) ∧ (Below w.heap.size w w')) ?_ ?_
       rotate_left
       ·intro hJ4_9
        refine join_ (σ := Nat) 4 #[true, true, true, true, true, true, true, true, true, false, false, false, true, false] (fun s_ => [(10, .agg #[.int .u64 t578, .int .u64 t579, .bool t580]), (5, .pointer (some ⟨s_, 0, none⟩))]) (fun s_ w' => (w'.cell? ⟨gb576, 0, none⟩ = some (.int .i64 a0_0) ∧ w'.cell? ⟨gb576, 1, none⟩ = some (.int .i64 a0_1) ∧ w'.cell? ⟨gb577, 0, none⟩ = some (.int .i64 a1_0) ∧ w'.cell? ⟨gb577, 1, none⟩ = some (.int .i64 a1_1)) ∧ (w'.heap[gb576]? = some (.cells #[.int .i64 a0_0, .int .i64 a0_1] 33 (0, 0))) ∧ (w'.heap[gb577]? = some (.cells #[.int .i64 a1_0, .int .i64 a1_1] 33 (0, 0))) ∧ (w'.heap[s_]? = some (.cells #[.int .u64 0, .int .u64 0, .bool false] 82 (0, 0))) ∧ (w.heap.size ≤ s_) ∧ (w.heap.size ≤ s_) ∧ (gb576 ≠ s_) ∧ (s_ ≠ gb576) ∧ (gb577 ≠ s_) ∧ (s_ ≠ gb577) ∧ (Below w.heap.size w w')) ?_ ?_
        rotate_left
        ·intro hJ4_12
         refine join_ (σ := Unit) 5 #[true, true, true, true, true, true, true, true, true, false, false, false, false, false] (fun s_ => [(10, .agg #[.int .u64 t578, .int .u64 t579, .bool t580])]) (fun s_ w' => (w'.cell? ⟨gb576, 0, none⟩ = some (.int .i64 a0_0) ∧ w'.cell? ⟨gb576, 1, none⟩ = some (.int .i64 a0_1) ∧ w'.cell? ⟨gb577, 0, none⟩ = some (.int .i64 a1_0) ∧ w'.cell? ⟨gb577, 1, none⟩ = some (.int .i64 a1_1)) ∧ (w'.heap[gb576]? = some (.cells #[.int .i64 a0_0, .int .i64 a0_1] 33 (0, 0))) ∧ (w'.heap[gb577]? = some (.cells #[.int .i64 a1_0, .int .i64 a1_1] 33 (0, 0))) ∧ (Below w.heap.size w w')) ?_ ?_
         rotate_left
         ·intro hJ4
          refine join_ (σ := Nat) 5 #[true, true, true, true, false, true, true, true, true, false, false, false, true, false] (fun s_ => [(5, .pointer (some ⟨s_, 0, none⟩))]) (fun s_ w' => (w'.cell? ⟨gb576, 0, none⟩ = some (.int .i64 a0_0) ∧ w'.cell? ⟨gb576, 1, none⟩ = some (.int .i64 a0_1) ∧ w'.cell? ⟨gb577, 0, none⟩ = some (.int .i64 a1_0) ∧ w'.cell? ⟨gb577, 1, none⟩ = some (.int .i64 a1_1)) ∧ (w'.heap[gb576]? = some (.cells #[.int .i64 a0_0, .int .i64 a0_1] 33 (0, 0))) ∧ (w'.heap[gb577]? = some (.cells #[.int .i64 a1_0, .int .i64 a1_1] 33 (0, 0))) ∧ (w'.heap[s_]? = some (.cells #[.int .u64 0, .int .u64 0, .bool false] 82 (0, 0))) ∧ (w.heap.size ≤ s_) ∧ (w.heap.size ≤ s_) ∧ (gb576 ≠ s_) ∧ (s_ ≠ gb576) ∧ (gb577 ≠ s_) ∧ (s_ ≠ gb577) ∧ (Below w.heap.size w w')) ?_ ?_
          rotate_left
          ·intro hJ12
           refine two_ (i := 4) (j := 12) (Ni := some 10) (Nj := some 5) #[true, true, true, true, true, true, true, true, true, false, false, false, false, false] #[true, true, true, true, false, true, true, true, true, false, false, false, true, false] rfl rfl rfl rfl (two_of HT_.out (by kernel_rfl)) (by decide) (by decide) (fun K hK => ?_) (fun K hK => ?_)
           ·skip
            refine goes_ Try.func74 (by kernel_rfl) rfl #[.int .i64 a0_0, .int .i64 a1_1] (by rfl) rfl rfl (by (try simp only [List.map_toArray, List.map_cons, List.map_nil]); first | done | rfl | (simp only [List.length_drop, List.length_take]; rfl)) ?_
            with_reducible refine (gangsawref04_times.calls a0_0 a1_1 t578 t579 t580 _ A3.out).mono ?_
            rintro e w12 ⟨rfl, hb⟩
            refine ⟨_, rfl, ?_⟩
            have n0_ := aK (zB (g := gb576) (o := .cells #[.int .i64 a0_0, .int .i64 a0_1] 33 (0, 0)) (BK576.out) hb)
            have n1_ := aK (zB (g := gb577) (o := .cells #[.int .i64 a1_0, .int .i64 a1_1] 33 (0, 0)) (BK577.out) hb)
            have n2_ := aK (yT (HB.out) hb)
            clear BK576
            clear BK577
            clear HB
            have BK576 := n0_
            have BK577 := n1_
            have HB := n2_
            clear n0_ n1_ n2_
            (try clear hb)
            (try clear hb2)
            (try clear hk)
            (try clear hi)
            refine hK.out _ _ ⟨(zC BK576.out 0).trans rfl, (zC BK576.out 1).trans rfl, (zC BK577.out 0).trans rfl, (zC BK577.out 1).trans rfl⟩ (fun hHeld => ?_)
            clear hK K
            refine norm_ (a' := ?_) ?_ ?_
            rotate_left
            ·show Act.put _ (some 10) _ = _
             simp only [Act.put, sA, sZ, sS, i64_w, i32_w]
             rfl
            exact norm_ (by first | (simp only [putAll, Act.put, sA, sZ, sS]; done) | (simp only [putAll, Act.put, sA, sZ, sS]; rfl)) (hJ4 () _ ⟨hHeld, (BK576.out), (BK577.out), (HB.out)⟩)
           ·skip
            refine box_step ?hg (N := 5) ?hd (cs := #[.int .u64 0, .int .u64 0, .bool false]) (t := 82) ?hr ?_; (case hd => rfl); (case hg => rfl); (case hr => first | (go_simp; done) | (go_simp; rfl))
            intro gb590 hg w12 hbox hb
            have n0_ := aK (zB (g := gb576) (o := .cells #[.int .i64 a0_0, .int .i64 a0_1] 33 (0, 0)) (BK576.out) hb)
            have n1_ := aK (zB (g := gb577) (o := .cells #[.int .i64 a1_0, .int .i64 a1_1] 33 (0, 0)) (BK577.out) hb)
            have n2_ := aK (yT (HB.out) hb)
            have n3_ := aK (hbox)
            have n4_ := aK ((by rw [hg]; exact (yZ (HB.out)) : w.heap.size ≤ gb590))
            have n5_ := aK ((by rw [hg]; exact (yZ (HB.out)) : w.heap.size ≤ gb590))
            have n6_ := aK ((by rw [hg]; exact Nat.ne_of_lt (blk_lt (g := gb576) (o := .cells #[.int .i64 a0_0, .int .i64 a0_1] 33 (0, 0)) (BK576.out)) : gb576 ≠ gb590))
            have n7_ := aK ((by rw [hg]; exact Nat.ne_of_gt (blk_lt (g := gb576) (o := .cells #[.int .i64 a0_0, .int .i64 a0_1] 33 (0, 0)) (BK576.out)) : gb590 ≠ gb576))
            have n8_ := aK ((by rw [hg]; exact Nat.ne_of_lt (blk_lt (g := gb577) (o := .cells #[.int .i64 a1_0, .int .i64 a1_1] 33 (0, 0)) (BK577.out)) : gb577 ≠ gb590))
            have n9_ := aK ((by rw [hg]; exact Nat.ne_of_gt (blk_lt (g := gb577) (o := .cells #[.int .i64 a1_0, .int .i64 a1_1] 33 (0, 0)) (BK577.out)) : gb590 ≠ gb577))
            clear BK576
            clear BK577
            clear HB
            have BK576 := n0_
            have BK577 := n1_
            have HB := n2_
            have BK590 := n3_
            have GW590 := n4_
            have GE590 := n5_
            have NB576_590 := n6_
            have NB590_576 := n7_
            have NB577_590 := n8_
            have NB590_577 := n9_
            clear n0_ n1_ n2_ n3_ n4_ n5_ n6_ n7_ n8_ n9_
            clear hb hbox hg
            refine hK.out _ _ ⟨(zC BK576.out 0).trans rfl, (zC BK576.out 1).trans rfl, (zC BK577.out 0).trans rfl, (zC BK577.out 1).trans rfl⟩ (fun hHeld => ?_)
            clear hK K
            refine norm_ (a' := ?_) ?_ ?_
            rotate_left
            ·show Act.put _ (some 5) _ = _
             simp only [Act.put, sA, sZ, sS, i64_w, i32_w]
             rfl
            exact norm_ (by first | (simp only [putAll, Act.put, sA, sZ, sS]; done) | (simp only [putAll, Act.put, sA, sZ, sS]; rfl)) (hJ12 (gb590) _ ⟨hHeld, (BK576.out), (BK577.out), (BK590.out), GW590.out, GE590.out, NB576_590.out, NB590_576.out, NB577_590.out, NB590_577.out, (HB.out)⟩)
          ·skip
           rintro gb590 w13 ⟨hS_, h0_, h1_, h2_, h3_, h4_, h5_, h6_, h7_, h8_, h9_⟩
           have n0_ : Aside0 (w13.heap[gb576]? = some (.cells #[.int .i64 a0_0, .int .i64 a0_1] 33 (0, 0))) := ⟨h0_⟩
           have n1_ : Aside0 (w13.heap[gb577]? = some (.cells #[.int .i64 a1_0, .int .i64 a1_1] 33 (0, 0))) := ⟨h1_⟩
           have n2_ : Aside0 (w13.heap[gb590]? = some (.cells #[.int .u64 0, .int .u64 0, .bool false] 82 (0, 0))) := ⟨h2_⟩
           have n3_ : Aside0 (w.heap.size ≤ gb590) := ⟨h3_⟩
           have n4_ : Aside0 (w.heap.size ≤ gb590) := ⟨h4_⟩
           have n5_ : Aside0 (gb576 ≠ gb590) := ⟨h5_⟩
           have n6_ : Aside0 (gb590 ≠ gb576) := ⟨h6_⟩
           have n7_ : Aside0 (gb577 ≠ gb590) := ⟨h7_⟩
           have n8_ : Aside0 (gb590 ≠ gb577) := ⟨h8_⟩
           have n9_ : Aside0 (Below w.heap.size w w13) := ⟨h9_⟩
           clear BK576
           clear BK577
           clear HB
           clear h0_ h1_ h2_ h3_ h4_ h5_ h6_ h7_ h8_ h9_
           have BK576 := n0_
           have BK577 := n1_
           have BK590 := n2_
           have GW590 := n3_
           have GE590 := n4_
           have NB576_590 := n5_
           have NB590_576 := n6_
           have NB577_590 := n7_
           have NB590_577 := n8_
           have HB := n9_
           clear n0_ n1_ n2_ n3_ n4_ n5_ n6_ n7_ n8_ n9_
           have hHeld : w13.cell? ⟨gb576, 0, none⟩ = some (.int .i64 a0_0) ∧ w13.cell? ⟨gb576, 1, none⟩ = some (.int .i64 a0_1) ∧ w13.cell? ⟨gb577, 0, none⟩ = some (.int .i64 a1_0) ∧ w13.cell? ⟨gb577, 1, none⟩ = some (.int .i64 a1_1) := hS_
           refine norm_ (a' := ?_) ?_ ?_
           rotate_left
           ·simp only [putAll, Act.put, sA, sZ, sS]
            rfl
           refine one_ (i := 4) (N := some 10) #[true, true, true, true, true, true, true, true, true, false, false, false, true, false] rfl rfl (one_of HT_.out (by kernel_rfl)) (by decide) (fun K hK => ?_)
           refine goes_ Try.func74 (by kernel_rfl) rfl #[.int .i64 a0_0, .int .i64 a1_1] (by rfl) rfl rfl (by (try simp only [List.map_toArray, List.map_cons, List.map_nil]); first | done | rfl | (simp only [List.length_drop, List.length_take]; rfl)) ?_
           with_reducible refine (gangsawref04_times.calls a0_0 a1_1 t578 t579 t580 _ A3.out).mono ?_
           rintro e w14 ⟨rfl, hb⟩
           refine ⟨_, rfl, ?_⟩
           have n0_ := aK (zB (g := gb576) (o := .cells #[.int .i64 a0_0, .int .i64 a0_1] 33 (0, 0)) (BK576.out) hb)
           have n1_ := aK (zB (g := gb577) (o := .cells #[.int .i64 a1_0, .int .i64 a1_1] 33 (0, 0)) (BK577.out) hb)
           have n2_ := aK (zB (g := gb590) (o := .cells #[.int .u64 0, .int .u64 0, .bool false] 82 (0, 0)) (BK590.out) hb)
           have n3_ := aK (yT (HB.out) hb)
           clear BK576
           clear BK577
           clear BK590
           clear HB
           have BK576 := n0_
           have BK577 := n1_
           have BK590 := n2_
           have HB := n3_
           clear n0_ n1_ n2_ n3_
           (try clear hb)
           (try clear hb2)
           (try clear hk)
           (try clear hi)
           refine hK.out _ _ ⟨(zC BK576.out 0).trans rfl, (zC BK576.out 1).trans rfl, (zC BK577.out 0).trans rfl, (zC BK577.out 1).trans rfl⟩ (fun hHeld => ?_)
           clear hK K
           refine norm_ (a' := ?_) ?_ ?_
           rotate_left
           ·show Act.put _ (some 10) _ = _
            simp only [Act.put, sA, sZ, sS, i64_w, i32_w]
            rfl
           exact norm_ (by first | (simp only [putAll, Act.put, sA, sZ, sS]; done) | (simp only [putAll, Act.put, sA, sZ, sS]; rfl)) (hJ4_12 (gb590) _ ⟨hHeld, (BK576.out), (BK577.out), (BK590.out), GW590.out, GE590.out, NB576_590.out, NB590_576.out, NB577_590.out, NB590_577.out, (HB.out)⟩)
         ·skip
          rintro _ w13 ⟨hS_, h0_, h1_, h2_⟩
          have n0_ : Aside0 (w13.heap[gb576]? = some (.cells #[.int .i64 a0_0, .int .i64 a0_1] 33 (0, 0))) := ⟨h0_⟩
          have n1_ : Aside0 (w13.heap[gb577]? = some (.cells #[.int .i64 a1_0, .int .i64 a1_1] 33 (0, 0))) := ⟨h1_⟩
          have n2_ : Aside0 (Below w.heap.size w w13) := ⟨h2_⟩
          clear BK576
          clear BK577
          clear HB
          clear h0_ h1_ h2_
          have BK576 := n0_
          have BK577 := n1_
          have HB := n2_
          clear n0_ n1_ n2_
          have hHeld : w13.cell? ⟨gb576, 0, none⟩ = some (.int .i64 a0_0) ∧ w13.cell? ⟨gb576, 1, none⟩ = some (.int .i64 a0_1) ∧ w13.cell? ⟨gb577, 0, none⟩ = some (.int .i64 a1_0) ∧ w13.cell? ⟨gb577, 1, none⟩ = some (.int .i64 a1_1) := hS_
          refine norm_ (a' := ?_) ?_ ?_
          rotate_left
          ·simp only [putAll, Act.put, sA, sZ, sS]
           rfl
          refine two_ (i := 9) (j := 12) (Ni := some 15) (Nj := some 5) #[true, true, true, true, true, true, true, true, true, true, false, false, false, false] #[true, true, true, true, true, true, true, true, true, false, false, false, true, false] rfl rfl rfl rfl (two_of HT_.out (by kernel_rfl)) (by decide) (by decide) (fun K hK => ?_) (fun K hK => ?_)
          ·skip
           refine goes_ Try.func74 (by kernel_rfl) rfl #[.int .i64 a1_0, .int .i64 a0_1] (by rfl) rfl rfl (by (try simp only [List.map_toArray, List.map_cons, List.map_nil]); first | done | rfl | (simp only [List.length_drop, List.length_take]; rfl)) ?_
           with_reducible refine (gangsawref04_times.calls a1_0 a0_1 t581 t582 t583 _ A4.out).mono ?_
           rintro e w14 ⟨rfl, hb⟩
           refine ⟨_, rfl, ?_⟩
           have n0_ := aK (zB (g := gb576) (o := .cells #[.int .i64 a0_0, .int .i64 a0_1] 33 (0, 0)) (BK576.out) hb)
           have n1_ := aK (zB (g := gb577) (o := .cells #[.int .i64 a1_0, .int .i64 a1_1] 33 (0, 0)) (BK577.out) hb)
           have n2_ := aK (yT (HB.out) hb)
           clear BK576
           clear BK577
           clear HB
           have BK576 := n0_
           have BK577 := n1_
           have HB := n2_
           clear n0_ n1_ n2_
           (try clear hb)
           (try clear hb2)
           (try clear hk)
           (try clear hi)
           refine hK.out _ _ ⟨(zC BK576.out 0).trans rfl, (zC BK576.out 1).trans rfl, (zC BK577.out 0).trans rfl, (zC BK577.out 1).trans rfl⟩ (fun hHeld => ?_)
           clear hK K
           refine norm_ (a' := ?_) ?_ ?_
           rotate_left
           ·show Act.put _ (some 15) _ = _
            simp only [Act.put, sA, sZ, sS, i64_w, i32_w]
            rfl
           exact norm_ (by first | (simp only [putAll, Act.put, sA, sZ, sS]; done) | (simp only [putAll, Act.put, sA, sZ, sS]; rfl)) (hJ4_9 () _ ⟨hHeld, (BK576.out), (BK577.out), (HB.out)⟩)
          ·skip
           refine box_step ?hg (N := 5) ?hd (cs := #[.int .u64 0, .int .u64 0, .bool false]) (t := 82) ?hr ?_; (case hd => rfl); (case hg => rfl); (case hr => first | (go_simp; done) | (go_simp; rfl))
           intro gb590 hg w14 hbox hb
           have n0_ := aK (zB (g := gb576) (o := .cells #[.int .i64 a0_0, .int .i64 a0_1] 33 (0, 0)) (BK576.out) hb)
           have n1_ := aK (zB (g := gb577) (o := .cells #[.int .i64 a1_0, .int .i64 a1_1] 33 (0, 0)) (BK577.out) hb)
           have n2_ := aK (yT (HB.out) hb)
           have n3_ := aK (hbox)
           have n4_ := aK ((by rw [hg]; exact (yZ (HB.out)) : w.heap.size ≤ gb590))
           have n5_ := aK ((by rw [hg]; exact (yZ (HB.out)) : w.heap.size ≤ gb590))
           have n6_ := aK ((by rw [hg]; exact Nat.ne_of_lt (blk_lt (g := gb576) (o := .cells #[.int .i64 a0_0, .int .i64 a0_1] 33 (0, 0)) (BK576.out)) : gb576 ≠ gb590))
           have n7_ := aK ((by rw [hg]; exact Nat.ne_of_gt (blk_lt (g := gb576) (o := .cells #[.int .i64 a0_0, .int .i64 a0_1] 33 (0, 0)) (BK576.out)) : gb590 ≠ gb576))
           have n8_ := aK ((by rw [hg]; exact Nat.ne_of_lt (blk_lt (g := gb577) (o := .cells #[.int .i64 a1_0, .int .i64 a1_1] 33 (0, 0)) (BK577.out)) : gb577 ≠ gb590))
           have n9_ := aK ((by rw [hg]; exact Nat.ne_of_gt (blk_lt (g := gb577) (o := .cells #[.int .i64 a1_0, .int .i64 a1_1] 33 (0, 0)) (BK577.out)) : gb590 ≠ gb577))
           clear BK576
           clear BK577
           clear HB
           have BK576 := n0_
           have BK577 := n1_
           have HB := n2_
           have BK590 := n3_
           have GW590 := n4_
           have GE590 := n5_
           have NB576_590 := n6_
           have NB590_576 := n7_
           have NB577_590 := n8_
           have NB590_577 := n9_
           clear n0_ n1_ n2_ n3_ n4_ n5_ n6_ n7_ n8_ n9_
           clear hb hbox hg
           refine hK.out _ _ ⟨(zC BK576.out 0).trans rfl, (zC BK576.out 1).trans rfl, (zC BK577.out 0).trans rfl, (zC BK577.out 1).trans rfl⟩ (fun hHeld => ?_)
           clear hK K
           refine norm_ (a' := ?_) ?_ ?_
           rotate_left
           ·show Act.put _ (some 5) _ = _
            simp only [Act.put, sA, sZ, sS, i64_w, i32_w]
            rfl
           exact norm_ (by first | (simp only [putAll, Act.put, sA, sZ, sS]; done) | (simp only [putAll, Act.put, sA, sZ, sS]; rfl)) (hJ4_12 (gb590) _ ⟨hHeld, (BK576.out), (BK577.out), (BK590.out), GW590.out, GE590.out, NB576_590.out, NB590_576.out, NB577_590.out, NB590_577.out, (HB.out)⟩)
        ·skip
         rintro gb590 w14 ⟨hS_, h0_, h1_, h2_, h3_, h4_, h5_, h6_, h7_, h8_, h9_⟩
         have n0_ : Aside0 (w14.heap[gb576]? = some (.cells #[.int .i64 a0_0, .int .i64 a0_1] 33 (0, 0))) := ⟨h0_⟩
         have n1_ : Aside0 (w14.heap[gb577]? = some (.cells #[.int .i64 a1_0, .int .i64 a1_1] 33 (0, 0))) := ⟨h1_⟩
         have n2_ : Aside0 (w14.heap[gb590]? = some (.cells #[.int .u64 0, .int .u64 0, .bool false] 82 (0, 0))) := ⟨h2_⟩
         have n3_ : Aside0 (w.heap.size ≤ gb590) := ⟨h3_⟩
         have n4_ : Aside0 (w.heap.size ≤ gb590) := ⟨h4_⟩
         have n5_ : Aside0 (gb576 ≠ gb590) := ⟨h5_⟩
         have n6_ : Aside0 (gb590 ≠ gb576) := ⟨h6_⟩
         have n7_ : Aside0 (gb577 ≠ gb590) := ⟨h7_⟩
         have n8_ : Aside0 (gb590 ≠ gb577) := ⟨h8_⟩
         have n9_ : Aside0 (Below w.heap.size w w14) := ⟨h9_⟩
         clear BK576
         clear BK577
         clear HB
         clear h0_ h1_ h2_ h3_ h4_ h5_ h6_ h7_ h8_ h9_
         have BK576 := n0_
         have BK577 := n1_
         have BK590 := n2_
         have GW590 := n3_
         have GE590 := n4_
         have NB576_590 := n5_
         have NB590_576 := n6_
         have NB577_590 := n7_
         have NB590_577 := n8_
         have HB := n9_
         clear n0_ n1_ n2_ n3_ n4_ n5_ n6_ n7_ n8_ n9_
         have hHeld : w14.cell? ⟨gb576, 0, none⟩ = some (.int .i64 a0_0) ∧ w14.cell? ⟨gb576, 1, none⟩ = some (.int .i64 a0_1) ∧ w14.cell? ⟨gb577, 0, none⟩ = some (.int .i64 a1_0) ∧ w14.cell? ⟨gb577, 1, none⟩ = some (.int .i64 a1_1) := hS_
         refine norm_ (a' := ?_) ?_ ?_
         rotate_left
         ·simp only [putAll, Act.put, sA, sZ, sS]
          rfl
         refine one_ (i := 9) (N := some 15) #[true, true, true, true, true, true, true, true, true, true, false, false, true, false] rfl rfl (one_of HT_.out (by kernel_rfl)) (by decide) (fun K hK => ?_)
         refine goes_ Try.func74 (by kernel_rfl) rfl #[.int .i64 a1_0, .int .i64 a0_1] (by rfl) rfl rfl (by (try simp only [List.map_toArray, List.map_cons, List.map_nil]); first | done | rfl | (simp only [List.length_drop, List.length_take]; rfl)) ?_
         with_reducible refine (gangsawref04_times.calls a1_0 a0_1 t581 t582 t583 _ A4.out).mono ?_
         rintro e w15 ⟨rfl, hb⟩
         refine ⟨_, rfl, ?_⟩
         have n0_ := aK (zB (g := gb576) (o := .cells #[.int .i64 a0_0, .int .i64 a0_1] 33 (0, 0)) (BK576.out) hb)
         have n1_ := aK (zB (g := gb577) (o := .cells #[.int .i64 a1_0, .int .i64 a1_1] 33 (0, 0)) (BK577.out) hb)
         have n2_ := aK (zB (g := gb590) (o := .cells #[.int .u64 0, .int .u64 0, .bool false] 82 (0, 0)) (BK590.out) hb)
         have n3_ := aK (yT (HB.out) hb)
         clear BK576
         clear BK577
         clear BK590
         clear HB
         have BK576 := n0_
         have BK577 := n1_
         have BK590 := n2_
         have HB := n3_
         clear n0_ n1_ n2_ n3_
         (try clear hb)
         (try clear hb2)
         (try clear hk)
         (try clear hi)
         refine hK.out _ _ ⟨(zC BK576.out 0).trans rfl, (zC BK576.out 1).trans rfl, (zC BK577.out 0).trans rfl, (zC BK577.out 1).trans rfl⟩ (fun hHeld => ?_)
         clear hK K
         refine norm_ (a' := ?_) ?_ ?_
         rotate_left
         ·show Act.put _ (some 15) _ = _
          simp only [Act.put, sA, sZ, sS, i64_w, i32_w]
          rfl
         exact norm_ (by first | (simp only [putAll, Act.put, sA, sZ, sS]; done) | (simp only [putAll, Act.put, sA, sZ, sS]; rfl)) (hJ4_9_12 (gb590) _ ⟨hHeld, (BK576.out), (BK577.out), (BK590.out), GW590.out, GE590.out, NB576_590.out, NB590_576.out, NB577_590.out, NB590_577.out, (HB.out)⟩)
       ·skip
        rintro _ w14 ⟨hS_, h0_, h1_, h2_⟩
        have n0_ : Aside0 (w14.heap[gb576]? = some (.cells #[.int .i64 a0_0, .int .i64 a0_1] 33 (0, 0))) := ⟨h0_⟩
        have n1_ : Aside0 (w14.heap[gb577]? = some (.cells #[.int .i64 a1_0, .int .i64 a1_1] 33 (0, 0))) := ⟨h1_⟩
        have n2_ : Aside0 (Below w.heap.size w w14) := ⟨h2_⟩
        clear BK576
        clear BK577
        clear HB
        clear h0_ h1_ h2_
        have BK576 := n0_
        have BK577 := n1_
        have HB := n2_
        clear n0_ n1_ n2_
        have hHeld : w14.cell? ⟨gb576, 0, none⟩ = some (.int .i64 a0_0) ∧ w14.cell? ⟨gb576, 1, none⟩ = some (.int .i64 a0_1) ∧ w14.cell? ⟨gb577, 0, none⟩ = some (.int .i64 a1_0) ∧ w14.cell? ⟨gb577, 1, none⟩ = some (.int .i64 a1_1) := hS_
        refine norm_ (a' := ?_) ?_ ?_
        rotate_left
        ·simp only [putAll, Act.put, sA, sZ, sS]
         rfl
        refine two_ (i := 10) (j := 12) (Ni := some 16) (Nj := some 5) #[true, true, true, true, true, true, true, true, true, true, true, false, false, false] #[true, true, true, true, true, true, true, true, true, true, false, false, true, false] rfl rfl rfl rfl (two_of HT_.out (by kernel_rfl)) (by decide) (by decide) (fun K hK => ?_) (fun K hK => ?_)
        ·skip
         refine goes_ Try.func75 (by kernel_rfl) rfl #[.agg #[.int .u64 t581, .int .u64 t582, .bool t583]] (by rfl) rfl rfl (by (try simp only [List.map_toArray, List.map_cons, List.map_nil]); first | done | rfl | (simp only [List.length_drop, List.length_take]; rfl)) ?_
         with_reducible refine (gangsawref04_minus.calls t581 t582 t583 t584 t585 t586 _ A5.out).mono ?_
         rintro e w15 ⟨rfl, hb⟩
         refine ⟨_, rfl, ?_⟩
         have n0_ := aK (zB (g := gb576) (o := .cells #[.int .i64 a0_0, .int .i64 a0_1] 33 (0, 0)) (BK576.out) hb)
         have n1_ := aK (zB (g := gb577) (o := .cells #[.int .i64 a1_0, .int .i64 a1_1] 33 (0, 0)) (BK577.out) hb)
         have n2_ := aK (yT (HB.out) hb)
         clear BK576
         clear BK577
         clear HB
         have BK576 := n0_
         have BK577 := n1_
         have HB := n2_
         clear n0_ n1_ n2_
         (try clear hb)
         (try clear hb2)
         (try clear hk)
         (try clear hi)
         refine hK.out _ _ ⟨(zC BK576.out 0).trans rfl, (zC BK576.out 1).trans rfl, (zC BK577.out 0).trans rfl, (zC BK577.out 1).trans rfl⟩ (fun hHeld => ?_)
         clear hK K
         refine norm_ (a' := ?_) ?_ ?_
         rotate_left
         ·show Act.put _ (some 16) _ = _
          simp only [Act.put, sA, sZ, sS, i64_w, i32_w]
          rfl
         exact norm_ (by first | (simp only [putAll, Act.put, sA, sZ, sS]; done) | (simp only [putAll, Act.put, sA, sZ, sS]; rfl)) (hJ4_9_10 () _ ⟨hHeld, (BK576.out), (BK577.out), (HB.out)⟩)
        ·skip
         refine box_step ?hg (N := 5) ?hd (cs := #[.int .u64 0, .int .u64 0, .bool false]) (t := 82) ?hr ?_; (case hd => rfl); (case hg => rfl); (case hr => first | (go_simp; done) | (go_simp; rfl))
         intro gb590 hg w15 hbox hb
         have n0_ := aK (zB (g := gb576) (o := .cells #[.int .i64 a0_0, .int .i64 a0_1] 33 (0, 0)) (BK576.out) hb)
         have n1_ := aK (zB (g := gb577) (o := .cells #[.int .i64 a1_0, .int .i64 a1_1] 33 (0, 0)) (BK577.out) hb)
         have n2_ := aK (yT (HB.out) hb)
         have n3_ := aK (hbox)
         have n4_ := aK ((by rw [hg]; exact (yZ (HB.out)) : w.heap.size ≤ gb590))
         have n5_ := aK ((by rw [hg]; exact (yZ (HB.out)) : w.heap.size ≤ gb590))
         have n6_ := aK ((by rw [hg]; exact Nat.ne_of_lt (blk_lt (g := gb576) (o := .cells #[.int .i64 a0_0, .int .i64 a0_1] 33 (0, 0)) (BK576.out)) : gb576 ≠ gb590))
         have n7_ := aK ((by rw [hg]; exact Nat.ne_of_gt (blk_lt (g := gb576) (o := .cells #[.int .i64 a0_0, .int .i64 a0_1] 33 (0, 0)) (BK576.out)) : gb590 ≠ gb576))
         have n8_ := aK ((by rw [hg]; exact Nat.ne_of_lt (blk_lt (g := gb577) (o := .cells #[.int .i64 a1_0, .int .i64 a1_1] 33 (0, 0)) (BK577.out)) : gb577 ≠ gb590))
         have n9_ := aK ((by rw [hg]; exact Nat.ne_of_gt (blk_lt (g := gb577) (o := .cells #[.int .i64 a1_0, .int .i64 a1_1] 33 (0, 0)) (BK577.out)) : gb590 ≠ gb577))
         clear BK576
         clear BK577
         clear HB
         have BK576 := n0_
         have BK577 := n1_
         have HB := n2_
         have BK590 := n3_
         have GW590 := n4_
         have GE590 := n5_
         have NB576_590 := n6_
         have NB590_576 := n7_
         have NB577_590 := n8_
         have NB590_577 := n9_
         clear n0_ n1_ n2_ n3_ n4_ n5_ n6_ n7_ n8_ n9_
         clear hb hbox hg
         refine hK.out _ _ ⟨(zC BK576.out 0).trans rfl, (zC BK576.out 1).trans rfl, (zC BK577.out 0).trans rfl, (zC BK577.out 1).trans rfl⟩ (fun hHeld => ?_)
         clear hK K
         refine norm_ (a' := ?_) ?_ ?_
         rotate_left
         ·show Act.put _ (some 5) _ = _
          simp only [Act.put, sA, sZ, sS, i64_w, i32_w]
          rfl
         exact norm_ (by first | (simp only [putAll, Act.put, sA, sZ, sS]; done) | (simp only [putAll, Act.put, sA, sZ, sS]; rfl)) (hJ4_9_12 (gb590) _ ⟨hHeld, (BK576.out), (BK577.out), (BK590.out), GW590.out, GE590.out, NB576_590.out, NB590_576.out, NB577_590.out, NB590_577.out, (HB.out)⟩)
      ·skip
       rintro gb590 w15 ⟨hS_, h0_, h1_, h2_, h3_, h4_, h5_, h6_, h7_, h8_, h9_⟩
       have n0_ : Aside0 (w15.heap[gb576]? = some (.cells #[.int .i64 a0_0, .int .i64 a0_1] 33 (0, 0))) := ⟨h0_⟩
       have n1_ : Aside0 (w15.heap[gb577]? = some (.cells #[.int .i64 a1_0, .int .i64 a1_1] 33 (0, 0))) := ⟨h1_⟩
       have n2_ : Aside0 (w15.heap[gb590]? = some (.cells #[.int .u64 0, .int .u64 0, .bool false] 82 (0, 0))) := ⟨h2_⟩
       have n3_ : Aside0 (w.heap.size ≤ gb590) := ⟨h3_⟩
       have n4_ : Aside0 (w.heap.size ≤ gb590) := ⟨h4_⟩
       have n5_ : Aside0 (gb576 ≠ gb590) := ⟨h5_⟩
       have n6_ : Aside0 (gb590 ≠ gb576) := ⟨h6_⟩
       have n7_ : Aside0 (gb577 ≠ gb590) := ⟨h7_⟩
       have n8_ : Aside0 (gb590 ≠ gb577) := ⟨h8_⟩
       have n9_ : Aside0 (Below w.heap.size w w15) := ⟨h9_⟩
       clear BK576
       clear BK577
       clear HB
       clear h0_ h1_ h2_ h3_ h4_ h5_ h6_ h7_ h8_ h9_
       have BK576 := n0_
       have BK577 := n1_
       have BK590 := n2_
       have GW590 := n3_
       have GE590 := n4_
       have NB576_590 := n5_
       have NB590_576 := n6_
       have NB577_590 := n7_
       have NB590_577 := n8_
       have HB := n9_
       clear n0_ n1_ n2_ n3_ n4_ n5_ n6_ n7_ n8_ n9_
       have hHeld : w15.cell? ⟨gb576, 0, none⟩ = some (.int .i64 a0_0) ∧ w15.cell? ⟨gb576, 1, none⟩ = some (.int .i64 a0_1) ∧ w15.cell? ⟨gb577, 0, none⟩ = some (.int .i64 a1_0) ∧ w15.cell? ⟨gb577, 1, none⟩ = some (.int .i64 a1_1) := hS_
       refine norm_ (a' := ?_) ?_ ?_
       rotate_left
       ·simp only [putAll, Act.put, sA, sZ, sS]
        rfl
       refine one_ (i := 10) (N := some 16) #[true, true, true, true, true, true, true, true, true, true, true, false, true, false] rfl rfl (one_of HT_.out (by kernel_rfl)) (by decide) (fun K hK => ?_)
       refine goes_ Try.func75 (by kernel_rfl) rfl #[.agg #[.int .u64 t581, .int .u64 t582, .bool t583]] (by rfl) rfl rfl (by (try simp only [List.map_toArray, List.map_cons, List.map_nil]); first | done | rfl | (simp only [List.length_drop, List.length_take]; rfl)) ?_
       with_reducible refine (gangsawref04_minus.calls t581 t582 t583 t584 t585 t586 _ A5.out).mono ?_
       rintro e w16 ⟨rfl, hb⟩
       refine ⟨_, rfl, ?_⟩
       have n0_ := aK (zB (g := gb576) (o := .cells #[.int .i64 a0_0, .int .i64 a0_1] 33 (0, 0)) (BK576.out) hb)
       have n1_ := aK (zB (g := gb577) (o := .cells #[.int .i64 a1_0, .int .i64 a1_1] 33 (0, 0)) (BK577.out) hb)
       have n2_ := aK (zB (g := gb590) (o := .cells #[.int .u64 0, .int .u64 0, .bool false] 82 (0, 0)) (BK590.out) hb)
       have n3_ := aK (yT (HB.out) hb)
       clear BK576
       clear BK577
       clear BK590
       clear HB
       have BK576 := n0_
       have BK577 := n1_
       have BK590 := n2_
       have HB := n3_
       clear n0_ n1_ n2_ n3_
       (try clear hb)
       (try clear hb2)
       (try clear hk)
       (try clear hi)
       refine hK.out _ _ ⟨(zC BK576.out 0).trans rfl, (zC BK576.out 1).trans rfl, (zC BK577.out 0).trans rfl, (zC BK577.out 1).trans rfl⟩ (fun hHeld => ?_)
       clear hK K
       refine norm_ (a' := ?_) ?_ ?_
       rotate_left
       ·show Act.put _ (some 16) _ = _
        simp only [Act.put, sA, sZ, sS, i64_w, i32_w]
        rfl
       exact norm_ (by first | (simp only [putAll, Act.put, sA, sZ, sS]; done) | (simp only [putAll, Act.put, sA, sZ, sS]; rfl)) (hJ4_9_10_12 (gb590) _ ⟨hHeld, (BK576.out), (BK577.out), (BK590.out), GW590.out, GE590.out, NB576_590.out, NB590_576.out, NB577_590.out, NB590_577.out, (HB.out)⟩)
     ·skip
      rintro _ w15 ⟨hS_, h0_, h1_, h2_⟩
      have n0_ : Aside0 (w15.heap[gb576]? = some (.cells #[.int .i64 a0_0, .int .i64 a0_1] 33 (0, 0))) := ⟨h0_⟩
      have n1_ : Aside0 (w15.heap[gb577]? = some (.cells #[.int .i64 a1_0, .int .i64 a1_1] 33 (0, 0))) := ⟨h1_⟩
      have n2_ : Aside0 (Below w.heap.size w w15) := ⟨h2_⟩
      clear BK576
      clear BK577
      clear HB
      clear h0_ h1_ h2_
      have BK576 := n0_
      have BK577 := n1_
      have HB := n2_
      clear n0_ n1_ n2_
      have hHeld : w15.cell? ⟨gb576, 0, none⟩ = some (.int .i64 a0_0) ∧ w15.cell? ⟨gb576, 1, none⟩ = some (.int .i64 a0_1) ∧ w15.cell? ⟨gb577, 0, none⟩ = some (.int .i64 a1_0) ∧ w15.cell? ⟨gb577, 1, none⟩ = some (.int .i64 a1_1) := hS_
      refine norm_ (a' := ?_) ?_ ?_
      rotate_left
      ·simp only [putAll, Act.put, sA, sZ, sS]
       rfl
      refine two_ (i := 11) (j := 12) (Ni := some 17) (Nj := some 5) #[true, true, true, true, true, true, true, true, true, true, true, true, false, false] #[true, true, true, true, true, true, true, true, true, true, true, false, true, false] rfl rfl rfl rfl (two_of HT_.out (by kernel_rfl)) (by decide) (by decide) (fun K hK => ?_) (fun K hK => ?_)
      ·skip
       refine goes_ Try.func73 (by kernel_rfl) rfl #[.agg #[.int .u64 t578, .int .u64 t579, .bool t580], .agg #[.int .u64 t584, .int .u64 t585, .bool t586]] (by rfl) rfl rfl (by (try simp only [List.map_toArray, List.map_cons, List.map_nil]); first | done | rfl | (simp only [List.length_drop, List.length_take]; rfl)) ?_
       with_reducible refine (gangsawref04_plus.calls t578 t579 t580 t584 t585 t586 t587 t588 t589 _ A6.out).mono ?_
       rintro e w16 ⟨rfl, hb⟩
       refine ⟨_, rfl, ?_⟩
       have n0_ := aK (zB (g := gb576) (o := .cells #[.int .i64 a0_0, .int .i64 a0_1] 33 (0, 0)) (BK576.out) hb)
       have n1_ := aK (zB (g := gb577) (o := .cells #[.int .i64 a1_0, .int .i64 a1_1] 33 (0, 0)) (BK577.out) hb)
       have n2_ := aK (yT (HB.out) hb)
       clear BK576
       clear BK577
       clear HB
       have BK576 := n0_
       have BK577 := n1_
       have HB := n2_
       clear n0_ n1_ n2_
       (try clear hb)
       (try clear hb2)
       (try clear hk)
       (try clear hi)
       refine hK.out _ _ ⟨(zC BK576.out 0).trans rfl, (zC BK576.out 1).trans rfl, (zC BK577.out 0).trans rfl, (zC BK577.out 1).trans rfl⟩ (fun hHeld => ?_)
       clear hK K
       refine norm_ (a' := ?_) ?_ ?_
       rotate_left
       ·show Act.put _ (some 17) _ = _
        simp only [Act.put, sA, sZ, sS, i64_w, i32_w]
        rfl
       exact norm_ (by first | (simp only [putAll, Act.put, sA, sZ, sS]; done) | (simp only [putAll, Act.put, sA, sZ, sS]; rfl)) (hJ4_9_10_11 () _ ⟨hHeld, (BK576.out), (BK577.out), (HB.out)⟩)
      ·skip
       refine box_step ?hg (N := 5) ?hd (cs := #[.int .u64 0, .int .u64 0, .bool false]) (t := 82) ?hr ?_; (case hd => rfl); (case hg => rfl); (case hr => first | (go_simp; done) | (go_simp; rfl))
       intro gb590 hg w16 hbox hb
       have n0_ := aK (zB (g := gb576) (o := .cells #[.int .i64 a0_0, .int .i64 a0_1] 33 (0, 0)) (BK576.out) hb)
       have n1_ := aK (zB (g := gb577) (o := .cells #[.int .i64 a1_0, .int .i64 a1_1] 33 (0, 0)) (BK577.out) hb)
       have n2_ := aK (yT (HB.out) hb)
       have n3_ := aK (hbox)
       have n4_ := aK ((by rw [hg]; exact (yZ (HB.out)) : w.heap.size ≤ gb590))
       have n5_ := aK ((by rw [hg]; exact (yZ (HB.out)) : w.heap.size ≤ gb590))
       have n6_ := aK ((by rw [hg]; exact Nat.ne_of_lt (blk_lt (g := gb576) (o := .cells #[.int .i64 a0_0, .int .i64 a0_1] 33 (0, 0)) (BK576.out)) : gb576 ≠ gb590))
       have n7_ := aK ((by rw [hg]; exact Nat.ne_of_gt (blk_lt (g := gb576) (o := .cells #[.int .i64 a0_0, .int .i64 a0_1] 33 (0, 0)) (BK576.out)) : gb590 ≠ gb576))
       have n8_ := aK ((by rw [hg]; exact Nat.ne_of_lt (blk_lt (g := gb577) (o := .cells #[.int .i64 a1_0, .int .i64 a1_1] 33 (0, 0)) (BK577.out)) : gb577 ≠ gb590))
       have n9_ := aK ((by rw [hg]; exact Nat.ne_of_gt (blk_lt (g := gb577) (o := .cells #[.int .i64 a1_0, .int .i64 a1_1] 33 (0, 0)) (BK577.out)) : gb590 ≠ gb577))
       clear BK576
       clear BK577
       clear HB
       have BK576 := n0_
       have BK577 := n1_
       have HB := n2_
       have BK590 := n3_
       have GW590 := n4_
       have GE590 := n5_
       have NB576_590 := n6_
       have NB590_576 := n7_
       have NB577_590 := n8_
       have NB590_577 := n9_
       clear n0_ n1_ n2_ n3_ n4_ n5_ n6_ n7_ n8_ n9_
       clear hb hbox hg
       refine hK.out _ _ ⟨(zC BK576.out 0).trans rfl, (zC BK576.out 1).trans rfl, (zC BK577.out 0).trans rfl, (zC BK577.out 1).trans rfl⟩ (fun hHeld => ?_)
       clear hK K
       refine norm_ (a' := ?_) ?_ ?_
       rotate_left
       ·show Act.put _ (some 5) _ = _
        simp only [Act.put, sA, sZ, sS, i64_w, i32_w]
        rfl
       exact norm_ (by first | (simp only [putAll, Act.put, sA, sZ, sS]; done) | (simp only [putAll, Act.put, sA, sZ, sS]; rfl)) (hJ4_9_10_12 (gb590) _ ⟨hHeld, (BK576.out), (BK577.out), (BK590.out), GW590.out, GE590.out, NB576_590.out, NB590_576.out, NB577_590.out, NB590_577.out, (HB.out)⟩)
    ·skip
     rintro gb590 w16 ⟨hS_, h0_, h1_, h2_, h3_, h4_, h5_, h6_, h7_, h8_, h9_⟩
     have n0_ : Aside0 (w16.heap[gb576]? = some (.cells #[.int .i64 a0_0, .int .i64 a0_1] 33 (0, 0))) := ⟨h0_⟩
     have n1_ : Aside0 (w16.heap[gb577]? = some (.cells #[.int .i64 a1_0, .int .i64 a1_1] 33 (0, 0))) := ⟨h1_⟩
     have n2_ : Aside0 (w16.heap[gb590]? = some (.cells #[.int .u64 0, .int .u64 0, .bool false] 82 (0, 0))) := ⟨h2_⟩
     have n3_ : Aside0 (w.heap.size ≤ gb590) := ⟨h3_⟩
     have n4_ : Aside0 (w.heap.size ≤ gb590) := ⟨h4_⟩
     have n5_ : Aside0 (gb576 ≠ gb590) := ⟨h5_⟩
     have n6_ : Aside0 (gb590 ≠ gb576) := ⟨h6_⟩
     have n7_ : Aside0 (gb577 ≠ gb590) := ⟨h7_⟩
     have n8_ : Aside0 (gb590 ≠ gb577) := ⟨h8_⟩
     have n9_ : Aside0 (Below w.heap.size w w16) := ⟨h9_⟩
     clear BK576
     clear BK577
     clear HB
     clear h0_ h1_ h2_ h3_ h4_ h5_ h6_ h7_ h8_ h9_
     have BK576 := n0_
     have BK577 := n1_
     have BK590 := n2_
     have GW590 := n3_
     have GE590 := n4_
     have NB576_590 := n5_
     have NB590_576 := n6_
     have NB577_590 := n7_
     have NB590_577 := n8_
     have HB := n9_
     clear n0_ n1_ n2_ n3_ n4_ n5_ n6_ n7_ n8_ n9_
     have hHeld : w16.cell? ⟨gb576, 0, none⟩ = some (.int .i64 a0_0) ∧ w16.cell? ⟨gb576, 1, none⟩ = some (.int .i64 a0_1) ∧ w16.cell? ⟨gb577, 0, none⟩ = some (.int .i64 a1_0) ∧ w16.cell? ⟨gb577, 1, none⟩ = some (.int .i64 a1_1) := hS_
     refine norm_ (a' := ?_) ?_ ?_
     rotate_left
     ·simp only [putAll, Act.put, sA, sZ, sS]
      rfl
     refine one_ (i := 11) (N := some 17) #[true, true, true, true, true, true, true, true, true, true, true, true, true, false] rfl rfl (one_of HT_.out (by kernel_rfl)) (by decide) (fun K hK => ?_)
     refine goes_ Try.func73 (by kernel_rfl) rfl #[.agg #[.int .u64 t578, .int .u64 t579, .bool t580], .agg #[.int .u64 t584, .int .u64 t585, .bool t586]] (by rfl) rfl rfl (by (try simp only [List.map_toArray, List.map_cons, List.map_nil]); first | done | rfl | (simp only [List.length_drop, List.length_take]; rfl)) ?_
     with_reducible refine (gangsawref04_plus.calls t578 t579 t580 t584 t585 t586 t587 t588 t589 _ A6.out).mono ?_
     rintro e w17 ⟨rfl, hb⟩
     refine ⟨_, rfl, ?_⟩
     have n0_ := aK (zB (g := gb576) (o := .cells #[.int .i64 a0_0, .int .i64 a0_1] 33 (0, 0)) (BK576.out) hb)
     have n1_ := aK (zB (g := gb577) (o := .cells #[.int .i64 a1_0, .int .i64 a1_1] 33 (0, 0)) (BK577.out) hb)
     have n2_ := aK (zB (g := gb590) (o := .cells #[.int .u64 0, .int .u64 0, .bool false] 82 (0, 0)) (BK590.out) hb)
     have n3_ := aK (yT (HB.out) hb)
     clear BK576
     clear BK577
     clear BK590
     clear HB
     have BK576 := n0_
     have BK577 := n1_
     have BK590 := n2_
     have HB := n3_
     clear n0_ n1_ n2_ n3_
     (try clear hb)
     (try clear hb2)
     (try clear hk)
     (try clear hi)
     refine hK.out _ _ ⟨(zC BK576.out 0).trans rfl, (zC BK576.out 1).trans rfl, (zC BK577.out 0).trans rfl, (zC BK577.out 1).trans rfl⟩ (fun hHeld => ?_)
     clear hK K
     refine norm_ (a' := ?_) ?_ ?_
     rotate_left
     ·show Act.put _ (some 17) _ = _
      simp only [Act.put, sA, sZ, sS, i64_w, i32_w]
      rfl
     exact norm_ (by first | (simp only [putAll, Act.put, sA, sZ, sS]; done) | (simp only [putAll, Act.put, sA, sZ, sS]; rfl)) (hJ4_9_10_11_12 (gb590) _ ⟨hHeld, (BK576.out), (BK577.out), (BK590.out), GW590.out, GE590.out, NB576_590.out, NB590_576.out, NB577_590.out, NB590_577.out, (HB.out)⟩)
   ·skip
    rintro _ w16 ⟨hS_, h0_, h1_, h2_⟩
    have n0_ : Aside0 (w16.heap[gb576]? = some (.cells #[.int .i64 a0_0, .int .i64 a0_1] 33 (0, 0))) := ⟨h0_⟩
    have n1_ : Aside0 (w16.heap[gb577]? = some (.cells #[.int .i64 a1_0, .int .i64 a1_1] 33 (0, 0))) := ⟨h1_⟩
    have n2_ : Aside0 (Below w.heap.size w w16) := ⟨h2_⟩
    clear BK576
    clear BK577
    clear HB
    clear h0_ h1_ h2_
    have BK576 := n0_
    have BK577 := n1_
    have HB := n2_
    clear n0_ n1_ n2_
    have hHeld : w16.cell? ⟨gb576, 0, none⟩ = some (.int .i64 a0_0) ∧ w16.cell? ⟨gb576, 1, none⟩ = some (.int .i64 a0_1) ∧ w16.cell? ⟨gb577, 0, none⟩ = some (.int .i64 a1_0) ∧ w16.cell? ⟨gb577, 1, none⟩ = some (.int .i64 a1_1) := hS_
    refine norm_ (a' := ?_) ?_ ?_
    rotate_left
    ·simp only [putAll, Act.put, sA, sZ, sS]
     rfl
    refine one_ (i := 12) (N := some 5) #[true, true, true, true, true, true, true, true, true, true, true, true, true, false] rfl rfl (one_of HT_.out (by kernel_rfl)) (by decide) (fun K hK => ?_)
    refine box_step ?hg (N := 5) ?hd (cs := #[.int .u64 0, .int .u64 0, .bool false]) (t := 82) ?hr ?_; (case hd => rfl); (case hg => rfl); (case hr => first | (go_simp; done) | (go_simp; rfl))
    intro gb590 hg w17 hbox hb
    have n0_ := aK (zB (g := gb576) (o := .cells #[.int .i64 a0_0, .int .i64 a0_1] 33 (0, 0)) (BK576.out) hb)
    have n1_ := aK (zB (g := gb577) (o := .cells #[.int .i64 a1_0, .int .i64 a1_1] 33 (0, 0)) (BK577.out) hb)
    have n2_ := aK (yT (HB.out) hb)
    have n3_ := aK (hbox)
    have n4_ := aK ((by rw [hg]; exact (yZ (HB.out)) : w.heap.size ≤ gb590))
    have n5_ := aK ((by rw [hg]; exact (yZ (HB.out)) : w.heap.size ≤ gb590))
    have n6_ := aK ((by rw [hg]; exact Nat.ne_of_lt (blk_lt (g := gb576) (o := .cells #[.int .i64 a0_0, .int .i64 a0_1] 33 (0, 0)) (BK576.out)) : gb576 ≠ gb590))
    have n7_ := aK ((by rw [hg]; exact Nat.ne_of_gt (blk_lt (g := gb576) (o := .cells #[.int .i64 a0_0, .int .i64 a0_1] 33 (0, 0)) (BK576.out)) : gb590 ≠ gb576))
    have n8_ := aK ((by rw [hg]; exact Nat.ne_of_lt (blk_lt (g := gb577) (o := .cells #[.int .i64 a1_0, .int .i64 a1_1] 33 (0, 0)) (BK577.out)) : gb577 ≠ gb590))
    have n9_ := aK ((by rw [hg]; exact Nat.ne_of_gt (blk_lt (g := gb577) (o := .cells #[.int .i64 a1_0, .int .i64 a1_1] 33 (0, 0)) (BK577.out)) : gb590 ≠ gb577))
    clear BK576
    clear BK577
    clear HB
    have BK576 := n0_
    have BK577 := n1_
    have HB := n2_
    have BK590 := n3_
    have GW590 := n4_
    have GE590 := n5_
    have NB576_590 := n6_
    have NB590_576 := n7_
    have NB577_590 := n8_
    have NB590_577 := n9_
    clear n0_ n1_ n2_ n3_ n4_ n5_ n6_ n7_ n8_ n9_
    clear hb hbox hg
    refine hK.out _ _ ⟨(zC BK576.out 0).trans rfl, (zC BK576.out 1).trans rfl, (zC BK577.out 0).trans rfl, (zC BK577.out 1).trans rfl⟩ (fun hHeld => ?_)
    clear hK K
    refine norm_ (a' := ?_) ?_ ?_
    rotate_left
    ·show Act.put _ (some 5) _ = _
     simp only [Act.put, sA, sZ, sS, i64_w, i32_w]
     rfl
    exact norm_ (by first | (simp only [putAll, Act.put, sA, sZ, sS]; done) | (simp only [putAll, Act.put, sA, sZ, sS]; rfl)) (hJ4_9_10_11_12 (gb590) _ ⟨hHeld, (BK576.out), (BK577.out), (BK590.out), GW590.out, GE590.out, NB576_590.out, NB590_576.out, NB577_590.out, NB590_577.out, (HB.out)⟩)
  rintro gb590 w17 ⟨hS_, h0_, h1_, h2_, h3_, h4_, h5_, h6_, h7_, h8_, h9_⟩
  have n0_ : Aside0 (w17.heap[gb576]? = some (.cells #[.int .i64 a0_0, .int .i64 a0_1] 33 (0, 0))) := ⟨h0_⟩
  have n1_ : Aside0 (w17.heap[gb577]? = some (.cells #[.int .i64 a1_0, .int .i64 a1_1] 33 (0, 0))) := ⟨h1_⟩
  have n2_ : Aside0 (w17.heap[gb590]? = some (.cells #[.int .u64 0, .int .u64 0, .bool false] 82 (0, 0))) := ⟨h2_⟩
  have n3_ : Aside0 (w.heap.size ≤ gb590) := ⟨h3_⟩
  have n4_ : Aside0 (w.heap.size ≤ gb590) := ⟨h4_⟩
  have n5_ : Aside0 (gb576 ≠ gb590) := ⟨h5_⟩
  have n6_ : Aside0 (gb590 ≠ gb576) := ⟨h6_⟩
  have n7_ : Aside0 (gb577 ≠ gb590) := ⟨h7_⟩
  have n8_ : Aside0 (gb590 ≠ gb577) := ⟨h8_⟩
  have n9_ : Aside0 (Below w.heap.size w w17) := ⟨h9_⟩
  clear BK576
  clear BK577
  clear HB
  clear h0_ h1_ h2_ h3_ h4_ h5_ h6_ h7_ h8_ h9_
  have BK576 := n0_
  have BK577 := n1_
  have BK590 := n2_
  have GW590 := n3_
  have GE590 := n4_
  have NB576_590 := n5_
  have NB590_576 := n6_
  have NB577_590 := n7_
  have NB590_577 := n8_
  have HB := n9_
  clear n0_ n1_ n2_ n3_ n4_ n5_ n6_ n7_ n8_ n9_
  have hHeld : w17.cell? ⟨gb576, 0, none⟩ = some (.int .i64 a0_0) ∧ w17.cell? ⟨gb576, 1, none⟩ = some (.int .i64 a0_1) ∧ w17.cell? ⟨gb577, 0, none⟩ = some (.int .i64 a1_0) ∧ w17.cell? ⟨gb577, 1, none⟩ = some (.int .i64 a1_1) := hS_
  refine norm_ (a' := ?_) ?_ ?_
  rotate_left
  ·simp only [putAll, Act.put, sA, sZ, sS]
   rfl
  refine one_ (i := 13) (N := none) #[true, true, true, true, true, true, true, true, true, true, true, true, true, true] rfl rfl (one_of HT_.out (by kernel_rfl)) (by decide) (fun K hK => ?_)
  have hs18 : w17.cell? ⟨gb590, 0, none⟩ = some (.int .u64 0) := (zC BK590.out 0).trans rfl
  have hfs18 := zF BK590.out 0
  have hns18_0 := NB576_590.out
  have hns18_1 := NB577_590.out
  have hms18_0 := NB590_576.out
  have hms18_1 := NB590_577.out
  have hs19 : w17.cell? ⟨gb590, 1, none⟩ = some (.int .u64 0) := (zC BK590.out 1).trans rfl
  have hfs19 := zF BK590.out 1
  have hns19_0 := NB576_590.out
  have hns19_1 := NB577_590.out
  have hms19_0 := NB590_576.out
  have hms19_1 := NB590_577.out
  have hs20 : w17.cell? ⟨gb590, 2, none⟩ = some (.bool false) := (zC BK590.out 2).trans rfl
  have hfs20 := zF BK590.out 2
  have hns20_0 := NB576_590.out
  have hns20_1 := NB577_590.out
  have hms20_0 := NB590_576.out
  have hms20_1 := NB590_577.out
  refine skip_ (w1 := ?_) (by rfl) rfl ?_ ?_
  rotate_left
  ·go_simp
   rfl
  refine hK.out _ _ ⟨((cell_far (p := ⟨gb590, _, none⟩) NB576_590.out _).trans (((cell_far (p := ⟨gb590, _, none⟩) NB576_590.out _).trans (((cell_far (p := ⟨gb590, _, none⟩) NB576_590.out _).trans (hHeld.1)))))), ((cell_far (p := ⟨gb590, _, none⟩) NB576_590.out _).trans (((cell_far (p := ⟨gb590, _, none⟩) NB576_590.out _).trans (((cell_far (p := ⟨gb590, _, none⟩) NB576_590.out _).trans (hHeld.2.1)))))), ((cell_far (p := ⟨gb590, _, none⟩) NB577_590.out _).trans (((cell_far (p := ⟨gb590, _, none⟩) NB577_590.out _).trans (((cell_far (p := ⟨gb590, _, none⟩) NB577_590.out _).trans (hHeld.2.2.1)))))), ((cell_far (p := ⟨gb590, _, none⟩) NB577_590.out _).trans (((cell_far (p := ⟨gb590, _, none⟩) NB577_590.out _).trans (((cell_far (p := ⟨gb590, _, none⟩) NB577_590.out _).trans (hHeld.2.2.2))))))⟩ (fun hHeld => ?_)
  clear hK K
  refine done_ (done_of HT_.out (by kernel_rfl)) ?_
  have hnb21 := NB590_576.out
  have hnc21 := NB576_590.out
  have hnb22 := NB590_577.out
  have hnc22 := NB577_590.out
  have hcz23_0 := zI BK590 0 rfl
  have hcz23_1 := zI BK590 1 rfl
  have hcz23_2 := zI BK590 2 rfl
  have hfz23_0 := zF BK590.out 0
  have hfz23_1 := zF BK590.out 1
  have hfz23_2 := zF BK590.out 2
  try go_wp2_with (first | ((with_reducible refine gate_callee (f := 76) rfl ?_); refine goesL_ (some 20) rfl rfl Try.func76 (by kernel_rfl) rfl #[.agg #[.int .u64 t587, .int .u64 t588, .bool t589]] rfl (by (try simp only [List.map_toArray, List.map_cons, List.map_nil]); first | done | rfl | (simp only [List.length_drop, List.length_take]; rfl)) ?_; (with_reducible refine (gangsawref04_wide_zero.calls t587 t588 t589 true _ A7.out).mono ?_); rintro e w24 ⟨rfl, hb⟩; refine ⟨_, rfl, ?_⟩; have n0_ := aK (zB (g := gb576) (o := .cells #[.int .i64 a0_0, .int .i64 a0_1] 33 (0, 0)) (by refine blk_far ?_ NB576_590.out _; refine blk_far ?_ NB576_590.out _; refine blk_far ?_ NB576_590.out _; exact BK576.out) hb); have n1_ := aK (zB (g := gb577) (o := .cells #[.int .i64 a1_0, .int .i64 a1_1] 33 (0, 0)) (by refine blk_far ?_ NB577_590.out _; refine blk_far ?_ NB577_590.out _; refine blk_far ?_ NB577_590.out _; exact BK577.out) hb); have n2_ := aK (zB (g := gb590) (o := .cells #[.int .u64 t587, .int .u64 t588, .bool t589] 82 (0, 0)) (by refine blk_put (cs := #[.int .u64 t587, .int .u64 t588, .bool false]) ?_ 2 _ rfl; refine blk_put (cs := #[.int .u64 t587, .int .u64 0, .bool false]) ?_ 1 _ rfl; refine blk_put (cs := #[.int .u64 0, .int .u64 0, .bool false]) ?_ 0 _ rfl; exact BK590.out) hb); have n3_ := aK (yT (by repeat (first | (with_reducible first | exact HB.out | apply yA | apply yN | apply yD | refine yS ?_ GE576.out | refine yS ?_ GE577.out | refine yS ?_ GE590.out) | exact HB.out)) hb); clear BK576; clear BK577; clear BK590; clear HB; have BK576 := n0_; have BK577 := n1_; have BK590 := n2_; have HB := n3_; clear n0_ n1_ n2_ n3_; (try clear hb)))
  go_ret
  exact ⟨rfl, HB.out⟩
 replace c8 := Bool.eq_false_iff.mpr c8
 subst c8
 have H1 : (if t589 = true then (some (-1)) else (some 1)) = some r := by rw [if_neg (show ¬ (false = true) by decide)] at H; exact H
 clear H
 have H := H1
 clear H1
 by_cases c25 : t589 = true
 ·subst c25
  have H1 : (some (-1)) = some r := by rw [if_pos rfl] at H; exact H
  clear H
  have H := H1
  clear H1
  obtain rfl := Option.some.inj H
  simp only [Option.some.injEq, Prod.mk.injEq] at H
  obtain ⟨rfl⟩ := H
  go_enter Try.func49, Try.ntmps49
  try go_wp2_with (first | ((with_reducible refine gate_dst (N := 2) rfl ?_); refine box_event ?hg (N := 2) ?hd (cs := #[.int .i64 a0_0, .int .i64 a0_1]) (t := 33) ?hr ?_; (case hd => rfl); (case hg => rfl); (case hr => first | (go_simp; done) | (go_simp; rfl)); intro gb576 hg w26 hbox hb; have n0_ := aK (yT (HB.out) hb); have n1_ := aK (hbox); have n2_ := aK ((by rw [hg]; exact (yZ (HB.out)) : w.heap.size ≤ gb576)); have n3_ := n2_; clear HB; have HB := n0_; have BK576 := n1_; have GW576 := n2_; have GE576 := n3_; clear n0_ n1_ n2_ n3_; clear hb hbox hg) | ((with_reducible refine gate_dst (N := 3) rfl ?_); refine box_event ?hg (N := 3) ?hd (cs := #[.int .i64 a1_0, .int .i64 a1_1]) (t := 33) ?hr ?_; (case hd => rfl); (case hg => rfl); (case hr => first | (go_simp; done) | (go_simp; rfl)); intro gb577 hg w27 hbox hb; have n0_ := aK (zB (g := gb576) (o := .cells #[.int .i64 a0_0, .int .i64 a0_1] 33 (0, 0)) (BK576.out) hb); have n1_ := aK (yT (HB.out) hb); have n2_ := aK (hbox); have n3_ := aK ((by rw [hg]; exact (yZ (HB.out)) : w.heap.size ≤ gb577)); have n4_ := n3_; have n5_ := aK ((by rw [hg]; exact Nat.ne_of_lt (blk_lt (g := gb576) (o := .cells #[.int .i64 a0_0, .int .i64 a0_1] 33 (0, 0)) (BK576.out)) : gb576 ≠ gb577)); have n6_ := aK ((by rw [hg]; exact Nat.ne_of_gt (blk_lt (g := gb576) (o := .cells #[.int .i64 a0_0, .int .i64 a0_1] 33 (0, 0)) (BK576.out)) : gb577 ≠ gb576)); clear BK576; clear HB; have BK576 := n0_; have HB := n1_; have BK577 := n2_; have GW577 := n3_; have GE577 := n4_; have NB576_577 := n5_; have NB577_576 := n6_; clear n0_ n1_ n2_ n3_ n4_ n5_ n6_; clear hb hbox hg))
  have n0_ := aK (zD BK576.out)
  have n1_ := aK (zD BK577.out)
  have n2_ := aK (yD HB.out)
  clear BK576
  clear BK577
  clear HB
  have BK576 := n0_
  have BK577 := n1_
  have HB := n2_
  clear n0_ n1_ n2_
  refine start_ (n := 14) (S := fun w' => w'.cell? ⟨gb576, 0, none⟩ = some (.int .i64 a0_0) ∧ w'.cell? ⟨gb576, 1, none⟩ = some (.int .i64 a0_1) ∧ w'.cell? ⟨gb577, 0, none⟩ = some (.int .i64 a1_0) ∧ w'.cell? ⟨gb577, 1, none⟩ = some (.int .i64 a1_1)) (ds := []) #[false, false, false, false, false, false, false, false, false, false, false, false, false, false] (by kernel_rfl) rfl rfl ⟨(zC BK576.out 0).trans rfl, (zC BK576.out 1).trans rfl, (zC BK577.out 0).trans rfl, (zC BK577.out 1).trans rfl⟩ (fun hHeld => ?_); refine with_tabW gangsawref04_Cmp.tab1 gangsawref04_Cmp.bits1 (fun HT_ HW_ => ?_)
  generalize w27.drew = w28 at BK576 BK577 HB hHeld ⊢
  refine pure_ (i := 0) (N := some 6) (v := ?_) (a' := ?_) #[true, false, false, false, false, false, false, false, false, false, false, false, false, false] rfl rfl (any_of HT_.out (by kernel_rfl)) (fun _ _ _ h => h) (Or.inl ⟨by rfl, ?_⟩) ?_ ?_
  rotate_left
  ·intro w'
   go_simp
   with_reducible rfl
  rotate_left
  ·simp only [Act.put, sA, sZ, sS, i64_w, i32_w]
   rfl
  refine pure_ (i := 2) (N := some 8) (v := ?_) (a' := ?_) #[true, false, true, false, false, false, false, false, false, false, false, false, false, false] rfl rfl (any_of HT_.out (by kernel_rfl)) (fun _ _ _ h => h) (Or.inl ⟨by rfl, ?_⟩) ?_ ?_
  rotate_left
  ·intro w'
   go_simp
   with_reducible rfl
  rotate_left
  ·simp only [Act.put, sA, sZ, sS, i64_w, i32_w]
   rfl
  refine pure_ (i := 5) (N := some 11) (v := ?_) (a' := ?_) #[true, false, true, false, false, true, false, false, false, false, false, false, false, false] rfl rfl (any_of HT_.out (by kernel_rfl)) (fun _ _ _ h => h) (Or.inl ⟨by rfl, ?_⟩) ?_ ?_
  rotate_left
  ·intro w'
   go_simp
   with_reducible rfl
  rotate_left
  ·simp only [Act.put, sA, sZ, sS, i64_w, i32_w]
   rfl
  refine pure_ (i := 7) (N := some 13) (v := ?_) (a' := ?_) #[true, false, true, false, false, true, false, true, false, false, false, false, false, false] rfl rfl (any_of HT_.out (by kernel_rfl)) (fun _ _ _ h => h) (Or.inl ⟨by rfl, ?_⟩) ?_ ?_
  rotate_left
  ·intro w'
   go_simp
   with_reducible rfl
  rotate_left
  ·simp only [Act.put, sA, sZ, sS, i64_w, i32_w]
   rfl
  refine take_ (i := 1) (N := some 7) (v := ?_) (a' := ?_) #[true, true, true, false, false, true, false, true, false, false, false, false, false, false] rfl rfl (take_ofW HT_.out HW_.out (by kernel_rfl)) (fun _ _ _ h => h) (Or.inl ⟨by rfl, ?_⟩) hHeld ?_ ?_
  rotate_left
  ·rintro w' ⟨s0, s1, s2, s3⟩
   go_simp
   with_reducible rfl
  rotate_left
  ·simp only [Act.put, sA, sZ, sS, i64_w, i32_w]
   rfl
  refine take_ (i := 3) (N := some 9) (v := ?_) (a' := ?_) #[true, true, true, true, false, true, false, true, false, false, false, false, false, false] rfl rfl (take_ofW HT_.out HW_.out (by kernel_rfl)) (fun _ _ _ h => h) (Or.inl ⟨by rfl, ?_⟩) hHeld ?_ ?_
  rotate_left
  ·rintro w' ⟨s0, s1, s2, s3⟩
   go_simp
   with_reducible rfl
  rotate_left
  ·simp only [Act.put, sA, sZ, sS, i64_w, i32_w]
   rfl
  refine take_ (i := 6) (N := some 12) (v := ?_) (a' := ?_) #[true, true, true, true, false, true, true, true, false, false, false, false, false, false] rfl rfl (take_ofW HT_.out HW_.out (by kernel_rfl)) (fun _ _ _ h => h) (Or.inl ⟨by rfl, ?_⟩) hHeld ?_ ?_
  rotate_left
  ·rintro w' ⟨s0, s1, s2, s3⟩
   go_simp
   with_reducible rfl
  rotate_left
  ·simp only [Act.put, sA, sZ, sS, i64_w, i32_w]
   rfl
  refine take_ (i := 8) (N := some 14) (v := ?_) (a' := ?_) #[true, true, true, true, false, true, true, true, true, false, false, false, false, false] rfl rfl (take_ofW HT_.out HW_.out (by kernel_rfl)) (fun _ _ _ h => h) (Or.inl ⟨by rfl, ?_⟩) hHeld ?_ ?_
  rotate_left
  ·rintro w' ⟨s0, s1, s2, s3⟩
   go_simp
   with_reducible rfl
  rotate_left
  ·simp only [Act.put, sA, sZ, sS, i64_w, i32_w]
   rfl
  refine join_ (σ := Nat) 1 #[true, true, true, true, true, true, true, true, true, true, true, true, true, false] (fun s_ => [(10, .agg #[.int .u64 t578, .int .u64 t579, .bool t580]), (15, .agg #[.int .u64 t581, .int .u64 t582, .bool t583]), (16, .agg #[.int .u64 t584, .int .u64 t585, .bool t586]), (17, .agg #[.int .u64 t587, .int .u64 t588, .bool true]), (5, .pointer (some ⟨s_, 0, none⟩))]) (fun s_ w' => (w'.cell? ⟨gb576, 0, none⟩ = some (.int .i64 a0_0) ∧ w'.cell? ⟨gb576, 1, none⟩ = some (.int .i64 a0_1) ∧ w'.cell? ⟨gb577, 0, none⟩ = some (.int .i64 a1_0) ∧ w'.cell? ⟨gb577, 1, none⟩ = some (.int .i64 a1_1)) ∧ (w'.heap[gb576]? = some (.cells #[.int .i64 a0_0, .int .i64 a0_1] 33 (0, 0))) ∧ (w'.heap[gb577]? = some (.cells #[.int .i64 a1_0, .int .i64 a1_1] 33 (0, 0))) ∧ (w'.heap[s_]? = some (.cells #[.int .u64 0, .int .u64 0, .bool false] 82 (0, 0))) ∧ (w.heap.size ≤ s_) ∧ (w.heap.size ≤ s_) ∧ (gb576 ≠ s_) ∧ (s_ ≠ gb576) ∧ (gb577 ≠ s_) ∧ (s_ ≠ gb577) ∧ (Below w.heap.size w w')) ?_ ?_
  rotate_left
  ·intro hJ4_9_10_11_12
   refine join_ (σ := Unit) 2 #[true, true, true, true, true, true, true, true, true, true, true, true, false, false] (fun s_ => [(10, .agg #[.int .u64 t578, .int .u64 t579, .bool t580]), (15, .agg #[.int .u64 t581, .int .u64 t582, .bool t583]), (16, .agg #[.int .u64 t584, .int .u64 t585, .bool t586]), (17, .agg #[.int .u64 t587, .int .u64 t588, .bool true])]) (fun s_ w' => (w'.cell? ⟨gb576, 0, none⟩ = some (.int .i64 a0_0) ∧ w'.cell? ⟨gb576, 1, none⟩ = some (.int .i64 a0_1) ∧ w'.cell? ⟨gb577, 0, none⟩ = some (.int .i64 a1_0) ∧ w'.cell? ⟨gb577, 1, none⟩ = some (.int .i64 a1_1)) ∧ (w'.heap[gb576]? = some (.cells #[.int .i64 a0_0, .int .i64 a0_1] 33 (0, 0))) ∧ (w'.heap[gb577]? = some (.cells #[.int .i64 a1_0, .int .i64 a1_1] 33 (0, 0))) ∧ (Below w.heap.size w w')) ?_ ?_
   rotate_left
   ·intro hJ4_9_10_11
    refine join_ (σ := Nat) 2 #[true, true, true, true, true, true, true, true, true, true, true, false, true, false] (fun s_ => [(10, .agg #[.int .u64 t578, .int .u64 t579, .bool t580]), (15, .agg #[.int .u64 t581, .int .u64 t582, .bool t583]), (16, .agg #[.int .u64 t584, .int .u64 t585, .bool t586]), (5, .pointer (some ⟨s_, 0, none⟩))]) (fun s_ w' => (w'.cell? ⟨gb576, 0, none⟩ = some (.int .i64 a0_0) ∧ w'.cell? ⟨gb576, 1, none⟩ = some (.int .i64 a0_1) ∧ w'.cell? ⟨gb577, 0, none⟩ = some (.int .i64 a1_0) ∧ w'.cell? ⟨gb577, 1, none⟩ = some (.int .i64 a1_1)) ∧ (w'.heap[gb576]? = some (.cells #[.int .i64 a0_0, .int .i64 a0_1] 33 (0, 0))) ∧ (w'.heap[gb577]? = some (.cells #[.int .i64 a1_0, .int .i64 a1_1] 33 (0, 0))) ∧ (w'.heap[s_]? = some (.cells #[.int .u64 0, .int .u64 0, .bool false] 82 (0, 0))) ∧ (w.heap.size ≤ s_) ∧ (w.heap.size ≤ s_) ∧ (gb576 ≠ s_) ∧ (s_ ≠ gb576) ∧ (gb577 ≠ s_) ∧ (s_ ≠ gb577) ∧ (Below w.heap.size w w')) ?_ ?_
    rotate_left
    ·intro hJ4_9_10_12
     refine join_ (σ := Unit) 3 #[true, true, true, true, true, true, true, true, true, true, true, false, false, false] (fun s_ => [(10, .agg #[.int .u64 t578, .int .u64 t579, .bool t580]), (15, .agg #[.int .u64 t581, .int .u64 t582, .bool t583]), (16, .agg #[.int .u64 t584, .int .u64 t585, .bool t586])]) (fun s_ w' => (w'.cell? ⟨gb576, 0, none⟩ = some (.int .i64 a0_0) ∧ w'.cell? ⟨gb576, 1, none⟩ = some (.int .i64 a0_1) ∧ w'.cell? ⟨gb577, 0, none⟩ = some (.int .i64 a1_0) ∧ w'.cell? ⟨gb577, 1, none⟩ = some (.int .i64 a1_1)) ∧ (w'.heap[gb576]? = some (.cells #[.int .i64 a0_0, .int .i64 a0_1] 33 (0, 0))) ∧ (w'.heap[gb577]? = some (.cells #[.int .i64 a1_0, .int .i64 a1_1] 33 (0, 0))) ∧ (Below w.heap.size w w')) ?_ ?_
     rotate_left
     ·intro hJ4_9_10
      refine join_ (σ := Nat) 3 #[true, true, true, true, true, true, true, true, true, true, false, false, true, false] (fun s_ => [(10, .agg #[.int .u64 t578, .int .u64 t579, .bool t580]), (15, .agg #[.int .u64 t581, .int .u64 t582, .bool t583]), (5, .pointer (some ⟨s_, 0, none⟩))]) (fun s_ w' => (w'.cell? ⟨gb576, 0, none⟩ = some (.int .i64 a0_0) ∧ w'.cell? ⟨gb576, 1, none⟩ = some (.int .i64 a0_1) ∧ w'.cell? ⟨gb577, 0, none⟩ = some (.int .i64 a1_0) ∧ w'.cell? ⟨gb577, 1, none⟩ = some (.int .i64 a1_1)) ∧ (w'.heap[gb576]? = some (.cells #[.int .i64 a0_0, .int .i64 a0_1] 33 (0, 0))) ∧ (w'.heap[gb577]? = some (.cells #[.int .i64 a1_0, .int .i64 a1_1] 33 (0, 0))) ∧ (w'.heap[s_]? = some (.cells #[.int .u64 0, .int .u64 0, .bool false] 82 (0, 0))) ∧ (w.heap.size ≤ s_) ∧ (w.heap.size ≤ s_) ∧ (gb576 ≠ s_) ∧ (s_ ≠ gb576) ∧ (gb577 ≠ s_) ∧ (s_ ≠ gb577) ∧ (Below w.heap.size w w')) ?_ ?_
      rotate_left
      ·intro hJ4_9_12
       refine join_ (σ := Unit) 4 #[true, true, true, true, true, true, true, true, true, true, false, false, false, false] (fun s_ => [(10, .agg #[.int .u64 t578, .int .u64 t579, .bool t580]), (15, .agg #[.int .u64 t581, .int .u64 t582, .bool t583])]) (fun s_ w' => (w'.cell? ⟨gb576, 0, none⟩ = some (.int .i64 a0_0) ∧ w'.cell? ⟨gb576, 1, none⟩ = some (.int .i64 a0_1) ∧ w'.cell? ⟨gb577, 0, none⟩ = some (.int .i64 a1_0) ∧ w'.cell? ⟨gb577, 1, none⟩ = some (.int .i64 a1_1)) ∧ (w'.heap[gb576]? = some (.cells #[.int .i64 a0_0, .int .i64 a0_1] 33 (0, 0))) ∧ (w'.heap[gb577]? = some (.cells #[.int .i64 a1_0, .int .i64 a1_1] 33 (0, 0))) ∧ (Below w.heap.size w w')) ?_ ?_
       rotate_left
       ·intro hJ4_9
        refine join_ (σ := Nat) 4 #[true, true, true, true, true, true, true, true, true, false, false, false, true, false] (fun s_ => [(10, .agg #[.int .u64 t578, .int .u64 t579, .bool t580]), (5, .pointer (some ⟨s_, 0, none⟩))]) (fun s_ w' => (w'.cell? ⟨gb576, 0, none⟩ = some (.int .i64 a0_0) ∧ w'.cell? ⟨gb576, 1, none⟩ = some (.int .i64 a0_1) ∧ w'.cell? ⟨gb577, 0, none⟩ = some (.int .i64 a1_0) ∧ w'.cell? ⟨gb577, 1, none⟩ = some (.int .i64 a1_1)) ∧ (w'.heap[gb576]? = some (.cells #[.int .i64 a0_0, .int .i64 a0_1] 33 (0, 0))) ∧ (w'.heap[gb577]? = some (.cells #[.int .i64 a1_0, .int .i64 a1_1] 33 (0, 0))) ∧ (w'.heap[s_]? = some (.cells #[.int .u64 0, .int .u64 0, .bool false] 82 (0, 0))) ∧ (w.heap.size ≤ s_) ∧ (w.heap.size ≤ s_) ∧ (gb576 ≠ s_) ∧ (s_ ≠ gb576) ∧ (gb577 ≠ s_) ∧ (s_ ≠ gb577) ∧ (Below w.heap.size w w')) ?_ ?_
        rotate_left
        ·intro hJ4_12
         refine join_ (σ := Unit) 5 #[true, true, true, true, true, true, true, true, true, false, false, false, false, false] (fun s_ => [(10, .agg #[.int .u64 t578, .int .u64 t579, .bool t580])]) (fun s_ w' => (w'.cell? ⟨gb576, 0, none⟩ = some (.int .i64 a0_0) ∧ w'.cell? ⟨gb576, 1, none⟩ = some (.int .i64 a0_1) ∧ w'.cell? ⟨gb577, 0, none⟩ = some (.int .i64 a1_0) ∧ w'.cell? ⟨gb577, 1, none⟩ = some (.int .i64 a1_1)) ∧ (w'.heap[gb576]? = some (.cells #[.int .i64 a0_0, .int .i64 a0_1] 33 (0, 0))) ∧ (w'.heap[gb577]? = some (.cells #[.int .i64 a1_0, .int .i64 a1_1] 33 (0, 0))) ∧ (Below w.heap.size w w')) ?_ ?_
         rotate_left
         ·intro hJ4
          refine join_ (σ := Nat) 5 #[true, true, true, true, false, true, true, true, true, false, false, false, true, false] (fun s_ => [(5, .pointer (some ⟨s_, 0, none⟩))]) (fun s_ w' => (w'.cell? ⟨gb576, 0, none⟩ = some (.int .i64 a0_0) ∧ w'.cell? ⟨gb576, 1, none⟩ = some (.int .i64 a0_1) ∧ w'.cell? ⟨gb577, 0, none⟩ = some (.int .i64 a1_0) ∧ w'.cell? ⟨gb577, 1, none⟩ = some (.int .i64 a1_1)) ∧ (w'.heap[gb576]? = some (.cells #[.int .i64 a0_0, .int .i64 a0_1] 33 (0, 0))) ∧ (w'.heap[gb577]? = some (.cells #[.int .i64 a1_0, .int .i64 a1_1] 33 (0, 0))) ∧ (w'.heap[s_]? = some (.cells #[.int .u64 0, .int .u64 0, .bool false] 82 (0, 0))) ∧ (w.heap.size ≤ s_) ∧ (w.heap.size ≤ s_) ∧ (gb576 ≠ s_) ∧ (s_ ≠ gb576) ∧ (gb577 ≠ s_) ∧ (s_ ≠ gb577) ∧ (Below w.heap.size w w')) ?_ ?_
          rotate_left
          ·intro hJ12
           refine two_ (i := 4) (j := 12) (Ni := some 10) (Nj := some 5) #[true, true, true, true, true, true, true, true, true, false, false, false, false, false] #[true, true, true, true, false, true, true, true, true, false, false, false, true, false] rfl rfl rfl rfl (two_of HT_.out (by kernel_rfl)) (by decide) (by decide) (fun K hK => ?_) (fun K hK => ?_)
           ·skip
            refine goes_ Try.func74 (by kernel_rfl) rfl #[.int .i64 a0_0, .int .i64 a1_1] (by rfl) rfl rfl (by (try simp only [List.map_toArray, List.map_cons, List.map_nil]); first | done | rfl | (simp only [List.length_drop, List.length_take]; rfl)) ?_
            with_reducible refine (gangsawref04_times.calls a0_0 a1_1 t578 t579 t580 _ A3.out).mono ?_
            rintro e w29 ⟨rfl, hb⟩
            refine ⟨_, rfl, ?_⟩
            have n0_ := aK (zB (g := gb576) (o := .cells #[.int .i64 a0_0, .int .i64 a0_1] 33 (0, 0)) (BK576.out) hb)
            have n1_ := aK (zB (g := gb577) (o := .cells #[.int .i64 a1_0, .int .i64 a1_1] 33 (0, 0)) (BK577.out) hb)
            have n2_ := aK (yT (HB.out) hb)
            clear BK576
            clear BK577
            clear HB
            have BK576 := n0_
            have BK577 := n1_
            have HB := n2_
            clear n0_ n1_ n2_
            (try clear hb)
            (try clear hb2)
            (try clear hk)
            (try clear hi)
            refine hK.out _ _ ⟨(zC BK576.out 0).trans rfl, (zC BK576.out 1).trans rfl, (zC BK577.out 0).trans rfl, (zC BK577.out 1).trans rfl⟩ (fun hHeld => ?_)
            clear hK K
            refine norm_ (a' := ?_) ?_ ?_
            rotate_left
            ·show Act.put _ (some 10) _ = _
             simp only [Act.put, sA, sZ, sS, i64_w, i32_w]
             rfl
            exact norm_ (by first | (simp only [putAll, Act.put, sA, sZ, sS]; done) | (simp only [putAll, Act.put, sA, sZ, sS]; rfl)) (hJ4 () _ ⟨hHeld, (BK576.out), (BK577.out), (HB.out)⟩)
           ·skip
            refine box_step ?hg (N := 5) ?hd (cs := #[.int .u64 0, .int .u64 0, .bool false]) (t := 82) ?hr ?_; (case hd => rfl); (case hg => rfl); (case hr => first | (go_simp; done) | (go_simp; rfl))
            intro gb590 hg w29 hbox hb
            have n0_ := aK (zB (g := gb576) (o := .cells #[.int .i64 a0_0, .int .i64 a0_1] 33 (0, 0)) (BK576.out) hb)
            have n1_ := aK (zB (g := gb577) (o := .cells #[.int .i64 a1_0, .int .i64 a1_1] 33 (0, 0)) (BK577.out) hb)
            have n2_ := aK (yT (HB.out) hb)
            have n3_ := aK (hbox)
            have n4_ := aK ((by rw [hg]; exact (yZ (HB.out)) : w.heap.size ≤ gb590))
            have n5_ := aK ((by rw [hg]; exact (yZ (HB.out)) : w.heap.size ≤ gb590))
            have n6_ := aK ((by rw [hg]; exact Nat.ne_of_lt (blk_lt (g := gb576) (o := .cells #[.int .i64 a0_0, .int .i64 a0_1] 33 (0, 0)) (BK576.out)) : gb576 ≠ gb590))
            have n7_ := aK ((by rw [hg]; exact Nat.ne_of_gt (blk_lt (g := gb576) (o := .cells #[.int .i64 a0_0, .int .i64 a0_1] 33 (0, 0)) (BK576.out)) : gb590 ≠ gb576))
            have n8_ := aK ((by rw [hg]; exact Nat.ne_of_lt (blk_lt (g := gb577) (o := .cells #[.int .i64 a1_0, .int .i64 a1_1] 33 (0, 0)) (BK577.out)) : gb577 ≠ gb590))
            have n9_ := aK ((by rw [hg]; exact Nat.ne_of_gt (blk_lt (g := gb577) (o := .cells #[.int .i64 a1_0, .int .i64 a1_1] 33 (0, 0)) (BK577.out)) : gb590 ≠ gb577))
            clear BK576
            clear BK577
            clear HB
            have BK576 := n0_
            have BK577 := n1_
            have HB := n2_
            have BK590 := n3_
            have GW590 := n4_
            have GE590 := n5_
            have NB576_590 := n6_
            have NB590_576 := n7_
            have NB577_590 := n8_
            have NB590_577 := n9_
            clear n0_ n1_ n2_ n3_ n4_ n5_ n6_ n7_ n8_ n9_
            clear hb hbox hg
            refine hK.out _ _ ⟨(zC BK576.out 0).trans rfl, (zC BK576.out 1).trans rfl, (zC BK577.out 0).trans rfl, (zC BK577.out 1).trans rfl⟩ (fun hHeld => ?_)
            clear hK K
            refine norm_ (a' := ?_) ?_ ?_
            rotate_left
            ·show Act.put _ (some 5) _ = _
             simp only [Act.put, sA, sZ, sS, i64_w, i32_w]
             rfl
            exact norm_ (by first | (simp only [putAll, Act.put, sA, sZ, sS]; done) | (simp only [putAll, Act.put, sA, sZ, sS]; rfl)) (hJ12 (gb590) _ ⟨hHeld, (BK576.out), (BK577.out), (BK590.out), GW590.out, GE590.out, NB576_590.out, NB590_576.out, NB577_590.out, NB590_577.out, (HB.out)⟩)
          ·skip
           rintro gb590 w30 ⟨hS_, h0_, h1_, h2_, h3_, h4_, h5_, h6_, h7_, h8_, h9_⟩
           have n0_ : Aside0 (w30.heap[gb576]? = some (.cells #[.int .i64 a0_0, .int .i64 a0_1] 33 (0, 0))) := ⟨h0_⟩
           have n1_ : Aside0 (w30.heap[gb577]? = some (.cells #[.int .i64 a1_0, .int .i64 a1_1] 33 (0, 0))) := ⟨h1_⟩
           have n2_ : Aside0 (w30.heap[gb590]? = some (.cells #[.int .u64 0, .int .u64 0, .bool false] 82 (0, 0))) := ⟨h2_⟩
           have n3_ : Aside0 (w.heap.size ≤ gb590) := ⟨h3_⟩
           have n4_ : Aside0 (w.heap.size ≤ gb590) := ⟨h4_⟩
           have n5_ : Aside0 (gb576 ≠ gb590) := ⟨h5_⟩
           have n6_ : Aside0 (gb590 ≠ gb576) := ⟨h6_⟩
           have n7_ : Aside0 (gb577 ≠ gb590) := ⟨h7_⟩
           have n8_ : Aside0 (gb590 ≠ gb577) := ⟨h8_⟩
           have n9_ : Aside0 (Below w.heap.size w w30) := ⟨h9_⟩
           clear BK576
           clear BK577
           clear HB
           clear h0_ h1_ h2_ h3_ h4_ h5_ h6_ h7_ h8_ h9_
           have BK576 := n0_
           have BK577 := n1_
           have BK590 := n2_
           have GW590 := n3_
           have GE590 := n4_
           have NB576_590 := n5_
           have NB590_576 := n6_
           have NB577_590 := n7_
           have NB590_577 := n8_
           have HB := n9_
           clear n0_ n1_ n2_ n3_ n4_ n5_ n6_ n7_ n8_ n9_
           have hHeld : w30.cell? ⟨gb576, 0, none⟩ = some (.int .i64 a0_0) ∧ w30.cell? ⟨gb576, 1, none⟩ = some (.int .i64 a0_1) ∧ w30.cell? ⟨gb577, 0, none⟩ = some (.int .i64 a1_0) ∧ w30.cell? ⟨gb577, 1, none⟩ = some (.int .i64 a1_1) := hS_
           refine norm_ (a' := ?_) ?_ ?_
           rotate_left
           ·simp only [putAll, Act.put, sA, sZ, sS]
            rfl
           refine one_ (i := 4) (N := some 10) #[true, true, true, true, true, true, true, true, true, false, false, false, true, false] rfl rfl (one_of HT_.out (by kernel_rfl)) (by decide) (fun K hK => ?_)
           refine goes_ Try.func74 (by kernel_rfl) rfl #[.int .i64 a0_0, .int .i64 a1_1] (by rfl) rfl rfl (by (try simp only [List.map_toArray, List.map_cons, List.map_nil]); first | done | rfl | (simp only [List.length_drop, List.length_take]; rfl)) ?_
           with_reducible refine (gangsawref04_times.calls a0_0 a1_1 t578 t579 t580 _ A3.out).mono ?_
           rintro e w31 ⟨rfl, hb⟩
           refine ⟨_, rfl, ?_⟩
           have n0_ := aK (zB (g := gb576) (o := .cells #[.int .i64 a0_0, .int .i64 a0_1] 33 (0, 0)) (BK576.out) hb)
           have n1_ := aK (zB (g := gb577) (o := .cells #[.int .i64 a1_0, .int .i64 a1_1] 33 (0, 0)) (BK577.out) hb)
           have n2_ := aK (zB (g := gb590) (o := .cells #[.int .u64 0, .int .u64 0, .bool false] 82 (0, 0)) (BK590.out) hb)
           have n3_ := aK (yT (HB.out) hb)
           clear BK576
           clear BK577
           clear BK590
           clear HB
           have BK576 := n0_
           have BK577 := n1_
           have BK590 := n2_
           have HB := n3_
           clear n0_ n1_ n2_ n3_
           (try clear hb)
           (try clear hb2)
           (try clear hk)
           (try clear hi)
           refine hK.out _ _ ⟨(zC BK576.out 0).trans rfl, (zC BK576.out 1).trans rfl, (zC BK577.out 0).trans rfl, (zC BK577.out 1).trans rfl⟩ (fun hHeld => ?_)
           clear hK K
           refine norm_ (a' := ?_) ?_ ?_
           rotate_left
           ·show Act.put _ (some 10) _ = _
            simp only [Act.put, sA, sZ, sS, i64_w, i32_w]
            rfl
           exact norm_ (by first | (simp only [putAll, Act.put, sA, sZ, sS]; done) | (simp only [putAll, Act.put, sA, sZ, sS]; rfl)) (hJ4_12 (gb590) _ ⟨hHeld, (BK576.out), (BK577.out), (BK590.out), GW590.out, GE590.out, NB576_590.out, NB590_576.out, NB577_590.out, NB590_577.out, (HB.out)⟩)
         ·skip
          rintro _ w30 ⟨hS_, h0_, h1_, h2_⟩
          have n0_ : Aside0 (w30.heap[gb576]? = some (.cells #[.int .i64 a0_0, .int .i64 a0_1] 33 (0, 0))) := ⟨h0_⟩
          have n1_ : Aside0 (w30.heap[gb577]? = some (.cells #[.int .i64 a1_0, .int .i64 a1_1] 33 (0, 0))) := ⟨h1_⟩
          have n2_ : Aside0 (Below w.heap.size w w30) := ⟨h2_⟩
          clear BK576
          clear BK577
          clear HB
          clear h0_ h1_ h2_
          have BK576 := n0_
          have BK577 := n1_
          have HB := n2_
          clear n0_ n1_ n2_
          have hHeld : w30.cell? ⟨gb576, 0, none⟩ = some (.int .i64 a0_0) ∧ w30.cell? ⟨gb576, 1, none⟩ = some (.int .i64 a0_1) ∧ w30.cell? ⟨gb577, 0, none⟩ = some (.int .i64 a1_0) ∧ w30.cell? ⟨gb577, 1, none⟩ = some (.int .i64 a1_1) := hS_
          refine norm_ (a' := ?_) ?_ ?_
          rotate_left
          ·simp only [putAll, Act.put, sA, sZ, sS]
           rfl
          refine two_ (i := 9) (j := 12) (Ni := some 15) (Nj := some 5) #[true, true, true, true, true, true, true, true, true, true, false, false, false, false] #[true, true, true, true, true, true, true, true, true, false, false, false, true, false] rfl rfl rfl rfl (two_of HT_.out (by kernel_rfl)) (by decide) (by decide) (fun K hK => ?_) (fun K hK => ?_)
          ·skip
           refine goes_ Try.func74 (by kernel_rfl) rfl #[.int .i64 a1_0, .int .i64 a0_1] (by rfl) rfl rfl (by (try simp only [List.map_toArray, List.map_cons, List.map_nil]); first | done | rfl | (simp only [List.length_drop, List.length_take]; rfl)) ?_
           with_reducible refine (gangsawref04_times.calls a1_0 a0_1 t581 t582 t583 _ A4.out).mono ?_
           rintro e w31 ⟨rfl, hb⟩
           refine ⟨_, rfl, ?_⟩
           have n0_ := aK (zB (g := gb576) (o := .cells #[.int .i64 a0_0, .int .i64 a0_1] 33 (0, 0)) (BK576.out) hb)
           have n1_ := aK (zB (g := gb577) (o := .cells #[.int .i64 a1_0, .int .i64 a1_1] 33 (0, 0)) (BK577.out) hb)
           have n2_ := aK (yT (HB.out) hb)
           clear BK576
           clear BK577
           clear HB
           have BK576 := n0_
           have BK577 := n1_
           have HB := n2_
           clear n0_ n1_ n2_
           (try clear hb)
           (try clear hb2)
           (try clear hk)
           (try clear hi)
           refine hK.out _ _ ⟨(zC BK576.out 0).trans rfl, (zC BK576.out 1).trans rfl, (zC BK577.out 0).trans rfl, (zC BK577.out 1).trans rfl⟩ (fun hHeld => ?_)
           clear hK K
           refine norm_ (a' := ?_) ?_ ?_
           rotate_left
           ·show Act.put _ (some 15) _ = _
            simp only [Act.put, sA, sZ, sS, i64_w, i32_w]
            rfl
           exact norm_ (by first | (simp only [putAll, Act.put, sA, sZ, sS]; done) | (simp only [putAll, Act.put, sA, sZ, sS]; rfl)) (hJ4_9 () _ ⟨hHeld, (BK576.out), (BK577.out), (HB.out)⟩)
          ·skip
           refine box_step ?hg (N := 5) ?hd (cs := #[.int .u64 0, .int .u64 0, .bool false]) (t := 82) ?hr ?_; (case hd => rfl); (case hg => rfl); (case hr => first | (go_simp; done) | (go_simp; rfl))
           intro gb590 hg w31 hbox hb
           have n0_ := aK (zB (g := gb576) (o := .cells #[.int .i64 a0_0, .int .i64 a0_1] 33 (0, 0)) (BK576.out) hb)
           have n1_ := aK (zB (g := gb577) (o := .cells #[.int .i64 a1_0, .int .i64 a1_1] 33 (0, 0)) (BK577.out) hb)
           have n2_ := aK (yT (HB.out) hb)
           have n3_ := aK (hbox)
           have n4_ := aK ((by rw [hg]; exact (yZ (HB.out)) : w.heap.size ≤ gb590))
           have n5_ := aK ((by rw [hg]; exact (yZ (HB.out)) : w.heap.size ≤ gb590))
           have n6_ := aK ((by rw [hg]; exact Nat.ne_of_lt (blk_lt (g := gb576) (o := .cells #[.int .i64 a0_0, .int .i64 a0_1] 33 (0, 0)) (BK576.out)) : gb576 ≠ gb590))
           have n7_ := aK ((by rw [hg]; exact Nat.ne_of_gt (blk_lt (g := gb576) (o := .cells #[.int .i64 a0_0, .int .i64 a0_1] 33 (0, 0)) (BK576.out)) : gb590 ≠ gb576))
           have n8_ := aK ((by rw [hg]; exact Nat.ne_of_lt (blk_lt (g := gb577) (o := .cells #[.int .i64 a1_0, .int .i64 a1_1] 33 (0, 0)) (BK577.out)) : gb577 ≠ gb590))
           have n9_ := aK ((by rw [hg]; exact Nat.ne_of_gt (blk_lt (g := gb577) (o := .cells #[.int .i64 a1_0, .int .i64 a1_1] 33 (0, 0)) (BK577.out)) : gb590 ≠ gb577))
           clear BK576
           clear BK577
           clear HB
           have BK576 := n0_
           have BK577 := n1_
           have HB := n2_
           have BK590 := n3_
           have GW590 := n4_
           have GE590 := n5_
           have NB576_590 := n6_
           have NB590_576 := n7_
           have NB577_590 := n8_
           have NB590_577 := n9_
           clear n0_ n1_ n2_ n3_ n4_ n5_ n6_ n7_ n8_ n9_
           clear hb hbox hg
           refine hK.out _ _ ⟨(zC BK576.out 0).trans rfl, (zC BK576.out 1).trans rfl, (zC BK577.out 0).trans rfl, (zC BK577.out 1).trans rfl⟩ (fun hHeld => ?_)
           clear hK K
           refine norm_ (a' := ?_) ?_ ?_
           rotate_left
           ·show Act.put _ (some 5) _ = _
            simp only [Act.put, sA, sZ, sS, i64_w, i32_w]
            rfl
           exact norm_ (by first | (simp only [putAll, Act.put, sA, sZ, sS]; done) | (simp only [putAll, Act.put, sA, sZ, sS]; rfl)) (hJ4_12 (gb590) _ ⟨hHeld, (BK576.out), (BK577.out), (BK590.out), GW590.out, GE590.out, NB576_590.out, NB590_576.out, NB577_590.out, NB590_577.out, (HB.out)⟩)
        ·skip
         rintro gb590 w31 ⟨hS_, h0_, h1_, h2_, h3_, h4_, h5_, h6_, h7_, h8_, h9_⟩
         have n0_ : Aside0 (w31.heap[gb576]? = some (.cells #[.int .i64 a0_0, .int .i64 a0_1] 33 (0, 0))) := ⟨h0_⟩
         have n1_ : Aside0 (w31.heap[gb577]? = some (.cells #[.int .i64 a1_0, .int .i64 a1_1] 33 (0, 0))) := ⟨h1_⟩
         have n2_ : Aside0 (w31.heap[gb590]? = some (.cells #[.int .u64 0, .int .u64 0, .bool false] 82 (0, 0))) := ⟨h2_⟩
         have n3_ : Aside0 (w.heap.size ≤ gb590) := ⟨h3_⟩
         have n4_ : Aside0 (w.heap.size ≤ gb590) := ⟨h4_⟩
         have n5_ : Aside0 (gb576 ≠ gb590) := ⟨h5_⟩
         have n6_ : Aside0 (gb590 ≠ gb576) := ⟨h6_⟩
         have n7_ : Aside0 (gb577 ≠ gb590) := ⟨h7_⟩
         have n8_ : Aside0 (gb590 ≠ gb577) := ⟨h8_⟩
         have n9_ : Aside0 (Below w.heap.size w w31) := ⟨h9_⟩
         clear BK576
         clear BK577
         clear HB
         clear h0_ h1_ h2_ h3_ h4_ h5_ h6_ h7_ h8_ h9_
         have BK576 := n0_
         have BK577 := n1_
         have BK590 := n2_
         have GW590 := n3_
         have GE590 := n4_
         have NB576_590 := n5_
         have NB590_576 := n6_
         have NB577_590 := n7_
         have NB590_577 := n8_
         have HB := n9_
         clear n0_ n1_ n2_ n3_ n4_ n5_ n6_ n7_ n8_ n9_
         have hHeld : w31.cell? ⟨gb576, 0, none⟩ = some (.int .i64 a0_0) ∧ w31.cell? ⟨gb576, 1, none⟩ = some (.int .i64 a0_1) ∧ w31.cell? ⟨gb577, 0, none⟩ = some (.int .i64 a1_0) ∧ w31.cell? ⟨gb577, 1, none⟩ = some (.int .i64 a1_1) := hS_
         refine norm_ (a' := ?_) ?_ ?_
         rotate_left
         ·simp only [putAll, Act.put, sA, sZ, sS]
          rfl
         refine one_ (i := 9) (N := some 15) #[true, true, true, true, true, true, true, true, true, true, false, false, true, false] rfl rfl (one_of HT_.out (by kernel_rfl)) (by decide) (fun K hK => ?_)
         refine goes_ Try.func74 (by kernel_rfl) rfl #[.int .i64 a1_0, .int .i64 a0_1] (by rfl) rfl rfl (by (try simp only [List.map_toArray, List.map_cons, List.map_nil]); first | done | rfl | (simp only [List.length_drop, List.length_take]; rfl)) ?_
         with_reducible refine (gangsawref04_times.calls a1_0 a0_1 t581 t582 t583 _ A4.out).mono ?_
         rintro e w32 ⟨rfl, hb⟩
         refine ⟨_, rfl, ?_⟩
         have n0_ := aK (zB (g := gb576) (o := .cells #[.int .i64 a0_0, .int .i64 a0_1] 33 (0, 0)) (BK576.out) hb)
         have n1_ := aK (zB (g := gb577) (o := .cells #[.int .i64 a1_0, .int .i64 a1_1] 33 (0, 0)) (BK577.out) hb)
         have n2_ := aK (zB (g := gb590) (o := .cells #[.int .u64 0, .int .u64 0, .bool false] 82 (0, 0)) (BK590.out) hb)
         have n3_ := aK (yT (HB.out) hb)
         clear BK576
         clear BK577
         clear BK590
         clear HB
         have BK576 := n0_
         have BK577 := n1_
         have BK590 := n2_
         have HB := n3_
         clear n0_ n1_ n2_ n3_
         (try clear hb)
         (try clear hb2)
         (try clear hk)
         (try clear hi)
         refine hK.out _ _ ⟨(zC BK576.out 0).trans rfl, (zC BK576.out 1).trans rfl, (zC BK577.out 0).trans rfl, (zC BK577.out 1).trans rfl⟩ (fun hHeld => ?_)
         clear hK K
         refine norm_ (a' := ?_) ?_ ?_
         rotate_left
         ·show Act.put _ (some 15) _ = _
          simp only [Act.put, sA, sZ, sS, i64_w, i32_w]
          rfl
         exact norm_ (by first | (simp only [putAll, Act.put, sA, sZ, sS]; done) | (simp only [putAll, Act.put, sA, sZ, sS]; rfl)) (hJ4_9_12 (gb590) _ ⟨hHeld, (BK576.out), (BK577.out), (BK590.out), GW590.out, GE590.out, NB576_590.out, NB590_576.out, NB577_590.out, NB590_577.out, (HB.out)⟩)
       ·skip
        rintro _ w31 ⟨hS_, h0_, h1_, h2_⟩
        have n0_ : Aside0 (w31.heap[gb576]? = some (.cells #[.int .i64 a0_0, .int .i64 a0_1] 33 (0, 0))) := ⟨h0_⟩
        have n1_ : Aside0 (w31.heap[gb577]? = some (.cells #[.int .i64 a1_0, .int .i64 a1_1] 33 (0, 0))) := ⟨h1_⟩
        have n2_ : Aside0 (Below w.heap.size w w31) := ⟨h2_⟩
        clear BK576
        clear BK577
        clear HB
        clear h0_ h1_ h2_
        have BK576 := n0_
        have BK577 := n1_
        have HB := n2_
        clear n0_ n1_ n2_
        have hHeld : w31.cell? ⟨gb576, 0, none⟩ = some (.int .i64 a0_0) ∧ w31.cell? ⟨gb576, 1, none⟩ = some (.int .i64 a0_1) ∧ w31.cell? ⟨gb577, 0, none⟩ = some (.int .i64 a1_0) ∧ w31.cell? ⟨gb577, 1, none⟩ = some (.int .i64 a1_1) := hS_
        refine norm_ (a' := ?_) ?_ ?_
        rotate_left
        ·simp only [putAll, Act.put, sA, sZ, sS]
         rfl
        refine two_ (i := 10) (j := 12) (Ni := some 16) (Nj := some 5) #[true, true, true, true, true, true, true, true, true, true, true, false, false, false] #[true, true, true, true, true, true, true, true, true, true, false, false, true, false] rfl rfl rfl rfl (two_of HT_.out (by kernel_rfl)) (by decide) (by decide) (fun K hK => ?_) (fun K hK => ?_)
        ·skip
         refine goes_ Try.func75 (by kernel_rfl) rfl #[.agg #[.int .u64 t581, .int .u64 t582, .bool t583]] (by rfl) rfl rfl (by (try simp only [List.map_toArray, List.map_cons, List.map_nil]); first | done | rfl | (simp only [List.length_drop, List.length_take]; rfl)) ?_
         with_reducible refine (gangsawref04_minus.calls t581 t582 t583 t584 t585 t586 _ A5.out).mono ?_
         rintro e w32 ⟨rfl, hb⟩
         refine ⟨_, rfl, ?_⟩
         have n0_ := aK (zB (g := gb576) (o := .cells #[.int .i64 a0_0, .int .i64 a0_1] 33 (0, 0)) (BK576.out) hb)
         have n1_ := aK (zB (g := gb577) (o := .cells #[.int .i64 a1_0, .int .i64 a1_1] 33 (0, 0)) (BK577.out) hb)
         have n2_ := aK (yT (HB.out) hb)
         clear BK576
         clear BK577
         clear HB
         have BK576 := n0_
         have BK577 := n1_
         have HB := n2_
         clear n0_ n1_ n2_
         (try clear hb)
         (try clear hb2)
         (try clear hk)
         (try clear hi)
         refine hK.out _ _ ⟨(zC BK576.out 0).trans rfl, (zC BK576.out 1).trans rfl, (zC BK577.out 0).trans rfl, (zC BK577.out 1).trans rfl⟩ (fun hHeld => ?_)
         clear hK K
         refine norm_ (a' := ?_) ?_ ?_
         rotate_left
         ·show Act.put _ (some 16) _ = _
          simp only [Act.put, sA, sZ, sS, i64_w, i32_w]
          rfl
         exact norm_ (by first | (simp only [putAll, Act.put, sA, sZ, sS]; done) | (simp only [putAll, Act.put, sA, sZ, sS]; rfl)) (hJ4_9_10 () _ ⟨hHeld, (BK576.out), (BK577.out), (HB.out)⟩)
        ·skip
         refine box_step ?hg (N := 5) ?hd (cs := #[.int .u64 0, .int .u64 0, .bool false]) (t := 82) ?hr ?_; (case hd => rfl); (case hg => rfl); (case hr => first | (go_simp; done) | (go_simp; rfl))
         intro gb590 hg w32 hbox hb
         have n0_ := aK (zB (g := gb576) (o := .cells #[.int .i64 a0_0, .int .i64 a0_1] 33 (0, 0)) (BK576.out) hb)
         have n1_ := aK (zB (g := gb577) (o := .cells #[.int .i64 a1_0, .int .i64 a1_1] 33 (0, 0)) (BK577.out) hb)
         have n2_ := aK (yT (HB.out) hb)
         have n3_ := aK (hbox)
         have n4_ := aK ((by rw [hg]; exact (yZ (HB.out)) : w.heap.size ≤ gb590))
         have n5_ := aK ((by rw [hg]; exact (yZ (HB.out)) : w.heap.size ≤ gb590))
         have n6_ := aK ((by rw [hg]; exact Nat.ne_of_lt (blk_lt (g := gb576) (o := .cells #[.int .i64 a0_0, .int .i64 a0_1] 33 (0, 0)) (BK576.out)) : gb576 ≠ gb590))
         have n7_ := aK ((by rw [hg]; exact Nat.ne_of_gt (blk_lt (g := gb576) (o := .cells #[.int .i64 a0_0, .int .i64 a0_1] 33 (0, 0)) (BK576.out)) : gb590 ≠ gb576))
         have n8_ := aK ((by rw [hg]; exact Nat.ne_of_lt (blk_lt (g := gb577) (o := .cells #[.int .i64 a1_0, .int .i64 a1_1] 33 (0, 0)) (BK577.out)) : gb577 ≠ gb590))
         have n9_ := aK ((by rw [hg]; exact Nat.ne_of_gt (blk_lt (g := gb577) (o := .cells #[.int .i64 a1_0, .int .i64 a1_1] 33 (0, 0)) (BK577.out)) : gb590 ≠ gb577))
         clear BK576
         clear BK577
         clear HB
         have BK576 := n0_
         have BK577 := n1_
         have HB := n2_
         have BK590 := n3_
         have GW590 := n4_
         have GE590 := n5_
         have NB576_590 := n6_
         have NB590_576 := n7_
         have NB577_590 := n8_
         have NB590_577 := n9_
         clear n0_ n1_ n2_ n3_ n4_ n5_ n6_ n7_ n8_ n9_
         clear hb hbox hg
         refine hK.out _ _ ⟨(zC BK576.out 0).trans rfl, (zC BK576.out 1).trans rfl, (zC BK577.out 0).trans rfl, (zC BK577.out 1).trans rfl⟩ (fun hHeld => ?_)
         clear hK K
         refine norm_ (a' := ?_) ?_ ?_
         rotate_left
         ·show Act.put _ (some 5) _ = _
          simp only [Act.put, sA, sZ, sS, i64_w, i32_w]
          rfl
         exact norm_ (by first | (simp only [putAll, Act.put, sA, sZ, sS]; done) | (simp only [putAll, Act.put, sA, sZ, sS]; rfl)) (hJ4_9_12 (gb590) _ ⟨hHeld, (BK576.out), (BK577.out), (BK590.out), GW590.out, GE590.out, NB576_590.out, NB590_576.out, NB577_590.out, NB590_577.out, (HB.out)⟩)
      ·skip
       rintro gb590 w32 ⟨hS_, h0_, h1_, h2_, h3_, h4_, h5_, h6_, h7_, h8_, h9_⟩
       have n0_ : Aside0 (w32.heap[gb576]? = some (.cells #[.int .i64 a0_0, .int .i64 a0_1] 33 (0, 0))) := ⟨h0_⟩
       have n1_ : Aside0 (w32.heap[gb577]? = some (.cells #[.int .i64 a1_0, .int .i64 a1_1] 33 (0, 0))) := ⟨h1_⟩
       have n2_ : Aside0 (w32.heap[gb590]? = some (.cells #[.int .u64 0, .int .u64 0, .bool false] 82 (0, 0))) := ⟨h2_⟩
       have n3_ : Aside0 (w.heap.size ≤ gb590) := ⟨h3_⟩
       have n4_ : Aside0 (w.heap.size ≤ gb590) := ⟨h4_⟩
       have n5_ : Aside0 (gb576 ≠ gb590) := ⟨h5_⟩
       have n6_ : Aside0 (gb590 ≠ gb576) := ⟨h6_⟩
       have n7_ : Aside0 (gb577 ≠ gb590) := ⟨h7_⟩
       have n8_ : Aside0 (gb590 ≠ gb577) := ⟨h8_⟩
       have n9_ : Aside0 (Below w.heap.size w w32) := ⟨h9_⟩
       clear BK576
       clear BK577
       clear HB
       clear h0_ h1_ h2_ h3_ h4_ h5_ h6_ h7_ h8_ h9_
       have BK576 := n0_
       have BK577 := n1_
       have BK590 := n2_
       have GW590 := n3_
       have GE590 := n4_
       have NB576_590 := n5_
       have NB590_576 := n6_
       have NB577_590 := n7_
       have NB590_577 := n8_
       have HB := n9_
       clear n0_ n1_ n2_ n3_ n4_ n5_ n6_ n7_ n8_ n9_
       have hHeld : w32.cell? ⟨gb576, 0, none⟩ = some (.int .i64 a0_0) ∧ w32.cell? ⟨gb576, 1, none⟩ = some (.int .i64 a0_1) ∧ w32.cell? ⟨gb577, 0, none⟩ = some (.int .i64 a1_0) ∧ w32.cell? ⟨gb577, 1, none⟩ = some (.int .i64 a1_1) := hS_
       refine norm_ (a' := ?_) ?_ ?_
       rotate_left
       ·simp only [putAll, Act.put, sA, sZ, sS]
        rfl
       refine one_ (i := 10) (N := some 16) #[true, true, true, true, true, true, true, true, true, true, true, false, true, false] rfl rfl (one_of HT_.out (by kernel_rfl)) (by decide) (fun K hK => ?_)
       refine goes_ Try.func75 (by kernel_rfl) rfl #[.agg #[.int .u64 t581, .int .u64 t582, .bool t583]] (by rfl) rfl rfl (by (try simp only [List.map_toArray, List.map_cons, List.map_nil]); first | done | rfl | (simp only [List.length_drop, List.length_take]; rfl)) ?_
       with_reducible refine (gangsawref04_minus.calls t581 t582 t583 t584 t585 t586 _ A5.out).mono ?_
       rintro e w33 ⟨rfl, hb⟩
       refine ⟨_, rfl, ?_⟩
       have n0_ := aK (zB (g := gb576) (o := .cells #[.int .i64 a0_0, .int .i64 a0_1] 33 (0, 0)) (BK576.out) hb)
       have n1_ := aK (zB (g := gb577) (o := .cells #[.int .i64 a1_0, .int .i64 a1_1] 33 (0, 0)) (BK577.out) hb)
       have n2_ := aK (zB (g := gb590) (o := .cells #[.int .u64 0, .int .u64 0, .bool false] 82 (0, 0)) (BK590.out) hb)
       have n3_ := aK (yT (HB.out) hb)
       clear BK576
       clear BK577
       clear BK590
       clear HB
       have BK576 := n0_
       have BK577 := n1_
       have BK590 := n2_
       have HB := n3_
       clear n0_ n1_ n2_ n3_
       (try clear hb)
       (try clear hb2)
       (try clear hk)
       (try clear hi)
       refine hK.out _ _ ⟨(zC BK576.out 0).trans rfl, (zC BK576.out 1).trans rfl, (zC BK577.out 0).trans rfl, (zC BK577.out 1).trans rfl⟩ (fun hHeld => ?_)
       clear hK K
       refine norm_ (a' := ?_) ?_ ?_
       rotate_left
       ·show Act.put _ (some 16) _ = _
        simp only [Act.put, sA, sZ, sS, i64_w, i32_w]
        rfl
       exact norm_ (by first | (simp only [putAll, Act.put, sA, sZ, sS]; done) | (simp only [putAll, Act.put, sA, sZ, sS]; rfl)) (hJ4_9_10_12 (gb590) _ ⟨hHeld, (BK576.out), (BK577.out), (BK590.out), GW590.out, GE590.out, NB576_590.out, NB590_576.out, NB577_590.out, NB590_577.out, (HB.out)⟩)
     ·skip
      rintro _ w32 ⟨hS_, h0_, h1_, h2_⟩
      have n0_ : Aside0 (w32.heap[gb576]? = some (.cells #[.int .i64 a0_0, .int .i64 a0_1] 33 (0, 0))) := ⟨h0_⟩
      have n1_ : Aside0 (w32.heap[gb577]? = some (.cells #[.int .i64 a1_0, .int .i64 a1_1] 33 (0, 0))) := ⟨h1_⟩
      have n2_ : Aside0 (Below w.heap.size w w32) := ⟨h2_⟩
      clear BK576
      clear BK577
      clear HB
      clear h0_ h1_ h2_
      have BK576 := n0_
      have BK577 := n1_
      have HB := n2_
      clear n0_ n1_ n2_
      have hHeld : w32.cell? ⟨gb576, 0, none⟩ = some (.int .i64 a0_0) ∧ w32.cell? ⟨gb576, 1, none⟩ = some (.int .i64 a0_1) ∧ w32.cell? ⟨gb577, 0, none⟩ = some (.int .i64 a1_0) ∧ w32.cell? ⟨gb577, 1, none⟩ = some (.int .i64 a1_1) := hS_
      refine norm_ (a' := ?_) ?_ ?_
      rotate_left
      ·simp only [putAll, Act.put, sA, sZ, sS]
       rfl
      refine two_ (i := 11) (j := 12) (Ni := some 17) (Nj := some 5) #[true, true, true, true, true, true, true, true, true, true, true, true, false, false] #[true, true, true, true, true, true, true, true, true, true, true, false, true, false] rfl rfl rfl rfl (two_of HT_.out (by kernel_rfl)) (by decide) (by decide) (fun K hK => ?_) (fun K hK => ?_)
      ·skip
       refine goes_ Try.func73 (by kernel_rfl) rfl #[.agg #[.int .u64 t578, .int .u64 t579, .bool t580], .agg #[.int .u64 t584, .int .u64 t585, .bool t586]] (by rfl) rfl rfl (by (try simp only [List.map_toArray, List.map_cons, List.map_nil]); first | done | rfl | (simp only [List.length_drop, List.length_take]; rfl)) ?_
       with_reducible refine (gangsawref04_plus.calls t578 t579 t580 t584 t585 t586 t587 t588 true _ A6.out).mono ?_
       rintro e w33 ⟨rfl, hb⟩
       refine ⟨_, rfl, ?_⟩
       have n0_ := aK (zB (g := gb576) (o := .cells #[.int .i64 a0_0, .int .i64 a0_1] 33 (0, 0)) (BK576.out) hb)
       have n1_ := aK (zB (g := gb577) (o := .cells #[.int .i64 a1_0, .int .i64 a1_1] 33 (0, 0)) (BK577.out) hb)
       have n2_ := aK (yT (HB.out) hb)
       clear BK576
       clear BK577
       clear HB
       have BK576 := n0_
       have BK577 := n1_
       have HB := n2_
       clear n0_ n1_ n2_
       (try clear hb)
       (try clear hb2)
       (try clear hk)
       (try clear hi)
       refine hK.out _ _ ⟨(zC BK576.out 0).trans rfl, (zC BK576.out 1).trans rfl, (zC BK577.out 0).trans rfl, (zC BK577.out 1).trans rfl⟩ (fun hHeld => ?_)
       clear hK K
       refine norm_ (a' := ?_) ?_ ?_
       rotate_left
       ·show Act.put _ (some 17) _ = _
        simp only [Act.put, sA, sZ, sS, i64_w, i32_w]
        rfl
       exact norm_ (by first | (simp only [putAll, Act.put, sA, sZ, sS]; done) | (simp only [putAll, Act.put, sA, sZ, sS]; rfl)) (hJ4_9_10_11 () _ ⟨hHeld, (BK576.out), (BK577.out), (HB.out)⟩)
      ·skip
       refine box_step ?hg (N := 5) ?hd (cs := #[.int .u64 0, .int .u64 0, .bool false]) (t := 82) ?hr ?_; (case hd => rfl); (case hg => rfl); (case hr => first | (go_simp; done) | (go_simp; rfl))
       intro gb590 hg w33 hbox hb
       have n0_ := aK (zB (g := gb576) (o := .cells #[.int .i64 a0_0, .int .i64 a0_1] 33 (0, 0)) (BK576.out) hb)
       have n1_ := aK (zB (g := gb577) (o := .cells #[.int .i64 a1_0, .int .i64 a1_1] 33 (0, 0)) (BK577.out) hb)
       have n2_ := aK (yT (HB.out) hb)
       have n3_ := aK (hbox)
       have n4_ := aK ((by rw [hg]; exact (yZ (HB.out)) : w.heap.size ≤ gb590))
       have n5_ := aK ((by rw [hg]; exact (yZ (HB.out)) : w.heap.size ≤ gb590))
       have n6_ := aK ((by rw [hg]; exact Nat.ne_of_lt (blk_lt (g := gb576) (o := .cells #[.int .i64 a0_0, .int .i64 a0_1] 33 (0, 0)) (BK576.out)) : gb576 ≠ gb590))
       have n7_ := aK ((by rw [hg]; exact Nat.ne_of_gt (blk_lt (g := gb576) (o := .cells #[.int .i64 a0_0, .int .i64 a0_1] 33 (0, 0)) (BK576.out)) : gb590 ≠ gb576))
       have n8_ := aK ((by rw [hg]; exact Nat.ne_of_lt (blk_lt (g := gb577) (o := .cells #[.int .i64 a1_0, .int .i64 a1_1] 33 (0, 0)) (BK577.out)) : gb577 ≠ gb590))
       have n9_ := aK ((by rw [hg]; exact Nat.ne_of_gt (blk_lt (g := gb577) (o := .cells #[.int .i64 a1_0, .int .i64 a1_1] 33 (0, 0)) (BK577.out)) : gb590 ≠ gb577))
       clear BK576
       clear BK577
       clear HB
       have BK576 := n0_
       have BK577 := n1_
       have HB := n2_
       have BK590 := n3_
       have GW590 := n4_
       have GE590 := n5_
       have NB576_590 := n6_
       have NB590_576 := n7_
       have NB577_590 := n8_
       have NB590_577 := n9_
       clear n0_ n1_ n2_ n3_ n4_ n5_ n6_ n7_ n8_ n9_
       clear hb hbox hg
       refine hK.out _ _ ⟨(zC BK576.out 0).trans rfl, (zC BK576.out 1).trans rfl, (zC BK577.out 0).trans rfl, (zC BK577.out 1).trans rfl⟩ (fun hHeld => ?_)
       clear hK K
       refine norm_ (a' := ?_) ?_ ?_
       rotate_left
       ·show Act.put _ (some 5) _ = _
        simp only [Act.put, sA, sZ, sS, i64_w, i32_w]
        rfl
       exact norm_ (by first | (simp only [putAll, Act.put, sA, sZ, sS]; done) | (simp only [putAll, Act.put, sA, sZ, sS]; rfl)) (hJ4_9_10_12 (gb590) _ ⟨hHeld, (BK576.out), (BK577.out), (BK590.out), GW590.out, GE590.out, NB576_590.out, NB590_576.out, NB577_590.out, NB590_577.out, (HB.out)⟩)
    ·skip
     rintro gb590 w33 ⟨hS_, h0_, h1_, h2_, h3_, h4_, h5_, h6_, h7_, h8_, h9_⟩
     have n0_ : Aside0 (w33.heap[gb576]? = some (.cells #[.int .i64 a0_0, .int .i64 a0_1] 33 (0, 0))) := ⟨h0_⟩
     have n1_ : Aside0 (w33.heap[gb577]? = some (.cells #[.int .i64 a1_0, .int .i64 a1_1] 33 (0, 0))) := ⟨h1_⟩
     have n2_ : Aside0 (w33.heap[gb590]? = some (.cells #[.int .u64 0, .int .u64 0, .bool false] 82 (0, 0))) := ⟨h2_⟩
     have n3_ : Aside0 (w.heap.size ≤ gb590) := ⟨h3_⟩
     have n4_ : Aside0 (w.heap.size ≤ gb590) := ⟨h4_⟩
     have n5_ : Aside0 (gb576 ≠ gb590) := ⟨h5_⟩
     have n6_ : Aside0 (gb590 ≠ gb576) := ⟨h6_⟩
     have n7_ : Aside0 (gb577 ≠ gb590) := ⟨h7_⟩
     have n8_ : Aside0 (gb590 ≠ gb577) := ⟨h8_⟩
     have n9_ : Aside0 (Below w.heap.size w w33) := ⟨h9_⟩
     clear BK576
     clear BK577
     clear HB
     clear h0_ h1_ h2_ h3_ h4_ h5_ h6_ h7_ h8_ h9_
     have BK576 := n0_
     have BK577 := n1_
     have BK590 := n2_
     have GW590 := n3_
     have GE590 := n4_
     have NB576_590 := n5_
     have NB590_576 := n6_
     have NB577_590 := n7_
     have NB590_577 := n8_
     have HB := n9_
     clear n0_ n1_ n2_ n3_ n4_ n5_ n6_ n7_ n8_ n9_
     have hHeld : w33.cell? ⟨gb576, 0, none⟩ = some (.int .i64 a0_0) ∧ w33.cell? ⟨gb576, 1, none⟩ = some (.int .i64 a0_1) ∧ w33.cell? ⟨gb577, 0, none⟩ = some (.int .i64 a1_0) ∧ w33.cell? ⟨gb577, 1, none⟩ = some (.int .i64 a1_1) := hS_
     refine norm_ (a' := ?_) ?_ ?_
     rotate_left
     ·simp only [putAll, Act.put, sA, sZ, sS]
      rfl
     refine one_ (i := 11) (N := some 17) #[true, true, true, true, true, true, true, true, true, true, true, true, true, false] rfl rfl (one_of HT_.out (by kernel_rfl)) (by decide) (fun K hK => ?_)
     refine goes_ Try.func73 (by kernel_rfl) rfl #[.agg #[.int .u64 t578, .int .u64 t579, .bool t580], .agg #[.int .u64 t584, .int .u64 t585, .bool t586]] (by rfl) rfl rfl (by (try simp only [List.map_toArray, List.map_cons, List.map_nil]); first | done | rfl | (simp only [List.length_drop, List.length_take]; rfl)) ?_
     with_reducible refine (gangsawref04_plus.calls t578 t579 t580 t584 t585 t586 t587 t588 true _ A6.out).mono ?_
     rintro e w34 ⟨rfl, hb⟩
     refine ⟨_, rfl, ?_⟩
     have n0_ := aK (zB (g := gb576) (o := .cells #[.int .i64 a0_0, .int .i64 a0_1] 33 (0, 0)) (BK576.out) hb)
     have n1_ := aK (zB (g := gb577) (o := .cells #[.int .i64 a1_0, .int .i64 a1_1] 33 (0, 0)) (BK577.out) hb)
     have n2_ := aK (zB (g := gb590) (o := .cells #[.int .u64 0, .int .u64 0, .bool false] 82 (0, 0)) (BK590.out) hb)
     have n3_ := aK (yT (HB.out) hb)
     clear BK576
     clear BK577
     clear BK590
     clear HB
     have BK576 := n0_
     have BK577 := n1_
     have BK590 := n2_
     have HB := n3_
     clear n0_ n1_ n2_ n3_
     (try clear hb)
     (try clear hb2)
     (try clear hk)
     (try clear hi)
     refine hK.out _ _ ⟨(zC BK576.out 0).trans rfl, (zC BK576.out 1).trans rfl, (zC BK577.out 0).trans rfl, (zC BK577.out 1).trans rfl⟩ (fun hHeld => ?_)
     clear hK K
     refine norm_ (a' := ?_) ?_ ?_
     rotate_left
     ·show Act.put _ (some 17) _ = _
      simp only [Act.put, sA, sZ, sS, i64_w, i32_w]
      rfl
     exact norm_ (by first | (simp only [putAll, Act.put, sA, sZ, sS]; done) | (simp only [putAll, Act.put, sA, sZ, sS]; rfl)) (hJ4_9_10_11_12 (gb590) _ ⟨hHeld, (BK576.out), (BK577.out), (BK590.out), GW590.out, GE590.out, NB576_590.out, NB590_576.out, NB577_590.out, NB590_577.out, (HB.out)⟩)
   ·skip
    rintro _ w33 ⟨hS_, h0_, h1_, h2_⟩
    have n0_ : Aside0 (w33.heap[gb576]? = some (.cells #[.int .i64 a0_0, .int .i64 a0_1] 33 (0, 0))) := ⟨h0_⟩
    have n1_ : Aside0 (w33.heap[gb577]? = some (.cells #[.int .i64 a1_0, .int .i64 a1_1] 33 (0, 0))) := ⟨h1_⟩
    have n2_ : Aside0 (Below w.heap.size w w33) := ⟨h2_⟩
    clear BK576
    clear BK577
    clear HB
    clear h0_ h1_ h2_
    have BK576 := n0_
    have BK577 := n1_
    have HB := n2_
    clear n0_ n1_ n2_
    have hHeld : w33.cell? ⟨gb576, 0, none⟩ = some (.int .i64 a0_0) ∧ w33.cell? ⟨gb576, 1, none⟩ = some (.int .i64 a0_1) ∧ w33.cell? ⟨gb577, 0, none⟩ = some (.int .i64 a1_0) ∧ w33.cell? ⟨gb577, 1, none⟩ = some (.int .i64 a1_1) := hS_
    refine norm_ (a' := ?_) ?_ ?_
    rotate_left
    ·simp only [putAll, Act.put, sA, sZ, sS]
     rfl
    refine one_ (i := 12) (N := some 5) #[true, true, true, true, true, true, true, true, true, true, true, true, true, false] rfl rfl (one_of HT_.out (by kernel_rfl)) (by decide) (fun K hK => ?_)
    refine box_step ?hg (N := 5) ?hd (cs := #[.int .u64 0, .int .u64 0, .bool false]) (t := 82) ?hr ?_; (case hd => rfl); (case hg => rfl); (case hr => first | (go_simp; done) | (go_simp; rfl))
    intro gb590 hg w34 hbox hb
    have n0_ := aK (zB (g := gb576) (o := .cells #[.int .i64 a0_0, .int .i64 a0_1] 33 (0, 0)) (BK576.out) hb)
    have n1_ := aK (zB (g := gb577) (o := .cells #[.int .i64 a1_0, .int .i64 a1_1] 33 (0, 0)) (BK577.out) hb)
    have n2_ := aK (yT (HB.out) hb)
    have n3_ := aK (hbox)
    have n4_ := aK ((by rw [hg]; exact (yZ (HB.out)) : w.heap.size ≤ gb590))
    have n5_ := aK ((by rw [hg]; exact (yZ (HB.out)) : w.heap.size ≤ gb590))
    have n6_ := aK ((by rw [hg]; exact Nat.ne_of_lt (blk_lt (g := gb576) (o := .cells #[.int .i64 a0_0, .int .i64 a0_1] 33 (0, 0)) (BK576.out)) : gb576 ≠ gb590))
    have n7_ := aK ((by rw [hg]; exact Nat.ne_of_gt (blk_lt (g := gb576) (o := .cells #[.int .i64 a0_0, .int .i64 a0_1] 33 (0, 0)) (BK576.out)) : gb590 ≠ gb576))
    have n8_ := aK ((by rw [hg]; exact Nat.ne_of_lt (blk_lt (g := gb577) (o := .cells #[.int .i64 a1_0, .int .i64 a1_1] 33 (0, 0)) (BK577.out)) : gb577 ≠ gb590))
    have n9_ := aK ((by rw [hg]; exact Nat.ne_of_gt (blk_lt (g := gb577) (o := .cells #[.int .i64 a1_0, .int .i64 a1_1] 33 (0, 0)) (BK577.out)) : gb590 ≠ gb577))
    clear BK576
    clear BK577
    clear HB
    have BK576 := n0_
    have BK577 := n1_
    have HB := n2_
    have BK590 := n3_
    have GW590 := n4_
    have GE590 := n5_
    have NB576_590 := n6_
    have NB590_576 := n7_
    have NB577_590 := n8_
    have NB590_577 := n9_
    clear n0_ n1_ n2_ n3_ n4_ n5_ n6_ n7_ n8_ n9_
    clear hb hbox hg
    refine hK.out _ _ ⟨(zC BK576.out 0).trans rfl, (zC BK576.out 1).trans rfl, (zC BK577.out 0).trans rfl, (zC BK577.out 1).trans rfl⟩ (fun hHeld => ?_)
    clear hK K
    refine norm_ (a' := ?_) ?_ ?_
    rotate_left
    ·show Act.put _ (some 5) _ = _
     simp only [Act.put, sA, sZ, sS, i64_w, i32_w]
     rfl
    exact norm_ (by first | (simp only [putAll, Act.put, sA, sZ, sS]; done) | (simp only [putAll, Act.put, sA, sZ, sS]; rfl)) (hJ4_9_10_11_12 (gb590) _ ⟨hHeld, (BK576.out), (BK577.out), (BK590.out), GW590.out, GE590.out, NB576_590.out, NB590_576.out, NB577_590.out, NB590_577.out, (HB.out)⟩)
  rintro gb590 w34 ⟨hS_, h0_, h1_, h2_, h3_, h4_, h5_, h6_, h7_, h8_, h9_⟩
  have n0_ : Aside0 (w34.heap[gb576]? = some (.cells #[.int .i64 a0_0, .int .i64 a0_1] 33 (0, 0))) := ⟨h0_⟩
  have n1_ : Aside0 (w34.heap[gb577]? = some (.cells #[.int .i64 a1_0, .int .i64 a1_1] 33 (0, 0))) := ⟨h1_⟩
  have n2_ : Aside0 (w34.heap[gb590]? = some (.cells #[.int .u64 0, .int .u64 0, .bool false] 82 (0, 0))) := ⟨h2_⟩
  have n3_ : Aside0 (w.heap.size ≤ gb590) := ⟨h3_⟩
  have n4_ : Aside0 (w.heap.size ≤ gb590) := ⟨h4_⟩
  have n5_ : Aside0 (gb576 ≠ gb590) := ⟨h5_⟩
  have n6_ : Aside0 (gb590 ≠ gb576) := ⟨h6_⟩
  have n7_ : Aside0 (gb577 ≠ gb590) := ⟨h7_⟩
  have n8_ : Aside0 (gb590 ≠ gb577) := ⟨h8_⟩
  have n9_ : Aside0 (Below w.heap.size w w34) := ⟨h9_⟩
  clear BK576
  clear BK577
  clear HB
  clear h0_ h1_ h2_ h3_ h4_ h5_ h6_ h7_ h8_ h9_
  have BK576 := n0_
  have BK577 := n1_
  have BK590 := n2_
  have GW590 := n3_
  have GE590 := n4_
  have NB576_590 := n5_
  have NB590_576 := n6_
  have NB577_590 := n7_
  have NB590_577 := n8_
  have HB := n9_
  clear n0_ n1_ n2_ n3_ n4_ n5_ n6_ n7_ n8_ n9_
  have hHeld : w34.cell? ⟨gb576, 0, none⟩ = some (.int .i64 a0_0) ∧ w34.cell? ⟨gb576, 1, none⟩ = some (.int .i64 a0_1) ∧ w34.cell? ⟨gb577, 0, none⟩ = some (.int .i64 a1_0) ∧ w34.cell? ⟨gb577, 1, none⟩ = some (.int .i64 a1_1) := hS_
  refine norm_ (a' := ?_) ?_ ?_
  rotate_left
  ·simp only [putAll, Act.put, sA, sZ, sS]
   rfl
  refine one_ (i := 13) (N := none) #[true, true, true, true, true, true, true, true, true, true, true, true, true, true] rfl rfl (one_of HT_.out (by kernel_rfl)) (by decide) (fun K hK => ?_)
  have hs35 : w34.cell? ⟨gb590, 0, none⟩ = some (.int .u64 0) := (zC BK590.out 0).trans rfl
  have hfs35 := zF BK590.out 0
  have hns35_0 := NB576_590.out
  have hns35_1 := NB577_590.out
  have hms35_0 := NB590_576.out
  have hms35_1 := NB590_577.out
  have hs36 : w34.cell? ⟨gb590, 1, none⟩ = some (.int .u64 0) := (zC BK590.out 1).trans rfl
  have hfs36 := zF BK590.out 1
  have hns36_0 := NB576_590.out
  have hns36_1 := NB577_590.out
  have hms36_0 := NB590_576.out
  have hms36_1 := NB590_577.out
  have hs37 : w34.cell? ⟨gb590, 2, none⟩ = some (.bool false) := (zC BK590.out 2).trans rfl
  have hfs37 := zF BK590.out 2
  have hns37_0 := NB576_590.out
  have hns37_1 := NB577_590.out
  have hms37_0 := NB590_576.out
  have hms37_1 := NB590_577.out
  refine skip_ (w1 := ?_) (by rfl) rfl ?_ ?_
  rotate_left
  ·go_simp
   rfl
  refine hK.out _ _ ⟨((cell_far (p := ⟨gb590, _, none⟩) NB576_590.out _).trans (((cell_far (p := ⟨gb590, _, none⟩) NB576_590.out _).trans (((cell_far (p := ⟨gb590, _, none⟩) NB576_590.out _).trans (hHeld.1)))))), ((cell_far (p := ⟨gb590, _, none⟩) NB576_590.out _).trans (((cell_far (p := ⟨gb590, _, none⟩) NB576_590.out _).trans (((cell_far (p := ⟨gb590, _, none⟩) NB576_590.out _).trans (hHeld.2.1)))))), ((cell_far (p := ⟨gb590, _, none⟩) NB577_590.out _).trans (((cell_far (p := ⟨gb590, _, none⟩) NB577_590.out _).trans (((cell_far (p := ⟨gb590, _, none⟩) NB577_590.out _).trans (hHeld.2.2.1)))))), ((cell_far (p := ⟨gb590, _, none⟩) NB577_590.out _).trans (((cell_far (p := ⟨gb590, _, none⟩) NB577_590.out _).trans (((cell_far (p := ⟨gb590, _, none⟩) NB577_590.out _).trans (hHeld.2.2.2))))))⟩ (fun hHeld => ?_)
  clear hK K
  refine done_ (done_of HT_.out (by kernel_rfl)) ?_
  have hnb38 := NB590_576.out
  have hnc38 := NB576_590.out
  have hnb39 := NB590_577.out
  have hnc39 := NB577_590.out
  have hcz40_0 := zI BK590 0 rfl
  have hcz40_1 := zI BK590 1 rfl
  have hcz40_2 := zI BK590 2 rfl
  have hfz40_0 := zF BK590.out 0
  have hfz40_1 := zF BK590.out 1
  have hfz40_2 := zF BK590.out 2
  try go_wp2_with (first | ((with_reducible refine gate_callee (f := 76) rfl ?_); refine goesL_ (some 20) rfl rfl Try.func76 (by kernel_rfl) rfl #[.agg #[.int .u64 t587, .int .u64 t588, .bool true]] rfl (by (try simp only [List.map_toArray, List.map_cons, List.map_nil]); first | done | rfl | (simp only [List.length_drop, List.length_take]; rfl)) ?_; (with_reducible refine (gangsawref04_wide_zero.calls t587 t588 true false _ A7.out).mono ?_); rintro e w41 ⟨rfl, hb⟩; refine ⟨_, rfl, ?_⟩; have n0_ := aK (zB (g := gb576) (o := .cells #[.int .i64 a0_0, .int .i64 a0_1] 33 (0, 0)) (by refine blk_far ?_ NB576_590.out _; refine blk_far ?_ NB576_590.out _; refine blk_far ?_ NB576_590.out _; exact BK576.out) hb); have n1_ := aK (zB (g := gb577) (o := .cells #[.int .i64 a1_0, .int .i64 a1_1] 33 (0, 0)) (by refine blk_far ?_ NB577_590.out _; refine blk_far ?_ NB577_590.out _; refine blk_far ?_ NB577_590.out _; exact BK577.out) hb); have n2_ := aK (zB (g := gb590) (o := .cells #[.int .u64 t587, .int .u64 t588, .bool true] 82 (0, 0)) (by refine blk_put (cs := #[.int .u64 t587, .int .u64 t588, .bool false]) ?_ 2 _ rfl; refine blk_put (cs := #[.int .u64 t587, .int .u64 0, .bool false]) ?_ 1 _ rfl; refine blk_put (cs := #[.int .u64 0, .int .u64 0, .bool false]) ?_ 0 _ rfl; exact BK590.out) hb); have n3_ := aK (yT (by repeat (first | (with_reducible first | exact HB.out | apply yA | apply yN | apply yD | refine yS ?_ GE576.out | refine yS ?_ GE577.out | refine yS ?_ GE590.out) | exact HB.out)) hb); clear BK576; clear BK577; clear BK590; clear HB; have BK576 := n0_; have BK577 := n1_; have BK590 := n2_; have HB := n3_; clear n0_ n1_ n2_ n3_; (try clear hb); have hcz42_0 := zI BK590 0 rfl; have hcz42_1 := zI BK590 1 rfl; have hcz42_2 := zI BK590 2 rfl; have hfz42_0 := zF BK590.out 0; have hfz42_1 := zF BK590.out 1; have hfz42_2 := zF BK590.out 2))
  go_ret
  exact ⟨rfl, HB.out⟩
 replace c25 := Bool.eq_false_iff.mpr c25
 subst c25
 have H1 : (some 1) = some r := by rw [if_neg (show ¬ (false = true) by decide)] at H; exact H
 clear H
 have H := H1
 clear H1
 obtain rfl := Option.some.inj H
 simp only [Option.some.injEq, Prod.mk.injEq] at H
 obtain ⟨rfl⟩ := H
 go_enter Try.func49, Try.ntmps49
 try go_wp2_with (first | ((with_reducible refine gate_dst (N := 2) rfl ?_); refine box_event ?hg (N := 2) ?hd (cs := #[.int .i64 a0_0, .int .i64 a0_1]) (t := 33) ?hr ?_; (case hd => rfl); (case hg => rfl); (case hr => first | (go_simp; done) | (go_simp; rfl)); intro gb576 hg w43 hbox hb; have n0_ := aK (yT (HB.out) hb); have n1_ := aK (hbox); have n2_ := aK ((by rw [hg]; exact (yZ (HB.out)) : w.heap.size ≤ gb576)); have n3_ := n2_; clear HB; have HB := n0_; have BK576 := n1_; have GW576 := n2_; have GE576 := n3_; clear n0_ n1_ n2_ n3_; clear hb hbox hg) | ((with_reducible refine gate_dst (N := 3) rfl ?_); refine box_event ?hg (N := 3) ?hd (cs := #[.int .i64 a1_0, .int .i64 a1_1]) (t := 33) ?hr ?_; (case hd => rfl); (case hg => rfl); (case hr => first | (go_simp; done) | (go_simp; rfl)); intro gb577 hg w44 hbox hb; have n0_ := aK (zB (g := gb576) (o := .cells #[.int .i64 a0_0, .int .i64 a0_1] 33 (0, 0)) (BK576.out) hb); have n1_ := aK (yT (HB.out) hb); have n2_ := aK (hbox); have n3_ := aK ((by rw [hg]; exact (yZ (HB.out)) : w.heap.size ≤ gb577)); have n4_ := n3_; have n5_ := aK ((by rw [hg]; exact Nat.ne_of_lt (blk_lt (g := gb576) (o := .cells #[.int .i64 a0_0, .int .i64 a0_1] 33 (0, 0)) (BK576.out)) : gb576 ≠ gb577)); have n6_ := aK ((by rw [hg]; exact Nat.ne_of_gt (blk_lt (g := gb576) (o := .cells #[.int .i64 a0_0, .int .i64 a0_1] 33 (0, 0)) (BK576.out)) : gb577 ≠ gb576)); clear BK576; clear HB; have BK576 := n0_; have HB := n1_; have BK577 := n2_; have GW577 := n3_; have GE577 := n4_; have NB576_577 := n5_; have NB577_576 := n6_; clear n0_ n1_ n2_ n3_ n4_ n5_ n6_; clear hb hbox hg))
 have n0_ := aK (zD BK576.out)
 have n1_ := aK (zD BK577.out)
 have n2_ := aK (yD HB.out)
 clear BK576
 clear BK577
 clear HB
 have BK576 := n0_
 have BK577 := n1_
 have HB := n2_
 clear n0_ n1_ n2_
 refine start_ (n := 14) (S := fun w' => w'.cell? ⟨gb576, 0, none⟩ = some (.int .i64 a0_0) ∧ w'.cell? ⟨gb576, 1, none⟩ = some (.int .i64 a0_1) ∧ w'.cell? ⟨gb577, 0, none⟩ = some (.int .i64 a1_0) ∧ w'.cell? ⟨gb577, 1, none⟩ = some (.int .i64 a1_1)) (ds := []) #[false, false, false, false, false, false, false, false, false, false, false, false, false, false] (by kernel_rfl) rfl rfl ⟨(zC BK576.out 0).trans rfl, (zC BK576.out 1).trans rfl, (zC BK577.out 0).trans rfl, (zC BK577.out 1).trans rfl⟩ (fun hHeld => ?_); refine with_tabW gangsawref04_Cmp.tab1 gangsawref04_Cmp.bits1 (fun HT_ HW_ => ?_)
 generalize w44.drew = w45 at BK576 BK577 HB hHeld ⊢
 refine pure_ (i := 0) (N := some 6) (v := ?_) (a' := ?_) #[true, false, false, false, false, false, false, false, false, false, false, false, false, false] rfl rfl (any_of HT_.out (by kernel_rfl)) (fun _ _ _ h => h) (Or.inl ⟨by rfl, ?_⟩) ?_ ?_
 rotate_left
 ·intro w'
  go_simp
  with_reducible rfl
 rotate_left
 ·simp only [Act.put, sA, sZ, sS, i64_w, i32_w]
  rfl
 refine pure_ (i := 2) (N := some 8) (v := ?_) (a' := ?_) #[true, false, true, false, false, false, false, false, false, false, false, false, false, false] rfl rfl (any_of HT_.out (by kernel_rfl)) (fun _ _ _ h => h) (Or.inl ⟨by rfl, ?_⟩) ?_ ?_
 rotate_left
 ·intro w'
  go_simp
  with_reducible rfl
 rotate_left
 ·simp only [Act.put, sA, sZ, sS, i64_w, i32_w]
  rfl
 refine pure_ (i := 5) (N := some 11) (v := ?_) (a' := ?_) #[true, false, true, false, false, true, false, false, false, false, false, false, false, false] rfl rfl (any_of HT_.out (by kernel_rfl)) (fun _ _ _ h => h) (Or.inl ⟨by rfl, ?_⟩) ?_ ?_
 rotate_left
 ·intro w'
  go_simp
  with_reducible rfl
 rotate_left
 ·simp only [Act.put, sA, sZ, sS, i64_w, i32_w]
  rfl
 refine pure_ (i := 7) (N := some 13) (v := ?_) (a' := ?_) #[true, false, true, false, false, true, false, true, false, false, false, false, false, false] rfl rfl (any_of HT_.out (by kernel_rfl)) (fun _ _ _ h => h) (Or.inl ⟨by rfl, ?_⟩) ?_ ?_
 rotate_left
 ·intro w'
  go_simp
  with_reducible rfl
 rotate_left
 ·simp only [Act.put, sA, sZ, sS, i64_w, i32_w]
  rfl
 refine take_ (i := 1) (N := some 7) (v := ?_) (a' := ?_) #[true, true, true, false, false, true, false, true, false, false, false, false, false, false] rfl rfl (take_ofW HT_.out HW_.out (by kernel_rfl)) (fun _ _ _ h => h) (Or.inl ⟨by rfl, ?_⟩) hHeld ?_ ?_
 rotate_left
 ·rintro w' ⟨s0, s1, s2, s3⟩
  go_simp
  with_reducible rfl
 rotate_left
 ·simp only [Act.put, sA, sZ, sS, i64_w, i32_w]
  rfl
 refine take_ (i := 3) (N := some 9) (v := ?_) (a' := ?_) #[true, true, true, true, false, true, false, true, false, false, false, false, false, false] rfl rfl (take_ofW HT_.out HW_.out (by kernel_rfl)) (fun _ _ _ h => h) (Or.inl ⟨by rfl, ?_⟩) hHeld ?_ ?_
 rotate_left
 ·rintro w' ⟨s0, s1, s2, s3⟩
  go_simp
  with_reducible rfl
 rotate_left
 ·simp only [Act.put, sA, sZ, sS, i64_w, i32_w]
  rfl
 refine take_ (i := 6) (N := some 12) (v := ?_) (a' := ?_) #[true, true, true, true, false, true, true, true, false, false, false, false, false, false] rfl rfl (take_ofW HT_.out HW_.out (by kernel_rfl)) (fun _ _ _ h => h) (Or.inl ⟨by rfl, ?_⟩) hHeld ?_ ?_
 rotate_left
 ·rintro w' ⟨s0, s1, s2, s3⟩
  go_simp
  with_reducible rfl
 rotate_left
 ·simp only [Act.put, sA, sZ, sS, i64_w, i32_w]
  rfl
 refine take_ (i := 8) (N := some 14) (v := ?_) (a' := ?_) #[true, true, true, true, false, true, true, true, true, false, false, false, false, false] rfl rfl (take_ofW HT_.out HW_.out (by kernel_rfl)) (fun _ _ _ h => h) (Or.inl ⟨by rfl, ?_⟩) hHeld ?_ ?_
 rotate_left
 ·rintro w' ⟨s0, s1, s2, s3⟩
  go_simp
  with_reducible rfl
 rotate_left
 ·simp only [Act.put, sA, sZ, sS, i64_w, i32_w]
  rfl
 refine join_ (σ := Nat) 1 #[true, true, true, true, true, true, true, true, true, true, true, true, true, false] (fun s_ => [(10, .agg #[.int .u64 t578, .int .u64 t579, .bool t580]), (15, .agg #[.int .u64 t581, .int .u64 t582, .bool t583]), (16, .agg #[.int .u64 t584, .int .u64 t585, .bool t586]), (17, .agg #[.int .u64 t587, .int .u64 t588, .bool false]), (5, .pointer (some ⟨s_, 0, none⟩))]) (fun s_ w' => (w'.cell? ⟨gb576, 0, none⟩ = some (.int .i64 a0_0) ∧ w'.cell? ⟨gb576, 1, none⟩ = some (.int .i64 a0_1) ∧ w'.cell? ⟨gb577, 0, none⟩ = some (.int .i64 a1_0) ∧ w'.cell? ⟨gb577, 1, none⟩ = some (.int .i64 a1_1)) ∧ (w'.heap[gb576]? = some (.cells #[.int .i64 a0_0, .int .i64 a0_1] 33 (0, 0))) ∧ (w'.heap[gb577]? = some (.cells #[.int .i64 a1_0, .int .i64 a1_1] 33 (0, 0))) ∧ (w'.heap[s_]? = some (.cells #[.int .u64 0, .int .u64 0, .bool false] 82 (0, 0))) ∧ (w.heap.size ≤ s_) ∧ (w.heap.size ≤ s_) ∧ (gb576 ≠ s_) ∧ (s_ ≠ gb576) ∧ (gb577 ≠ s_) ∧ (s_ ≠ gb577) ∧ (Below w.heap.size w w')) ?_ ?_
 rotate_left
 ·intro hJ4_9_10_11_12
  refine join_ (σ := Unit) 2 #[true, true, true, true, true, true, true, true, true, true, true, true, false, false] (fun s_ => [(10, .agg #[.int .u64 t578, .int .u64 t579, .bool t580]), (15, .agg #[.int .u64 t581, .int .u64 t582, .bool t583]), (16, .agg #[.int .u64 t584, .int .u64 t585, .bool t586]), (17, .agg #[.int .u64 t587, .int .u64 t588, .bool false])]) (fun s_ w' => (w'.cell? ⟨gb576, 0, none⟩ = some (.int .i64 a0_0) ∧ w'.cell? ⟨gb576, 1, none⟩ = some (.int .i64 a0_1) ∧ w'.cell? ⟨gb577, 0, none⟩ = some (.int .i64 a1_0) ∧ w'.cell? ⟨gb577, 1, none⟩ = some (.int .i64 a1_1)) ∧ (w'.heap[gb576]? = some (.cells #[.int .i64 a0_0, .int .i64 a0_1] 33 (0, 0))) ∧ (w'.heap[gb577]? = some (.cells #[.int .i64 a1_0, .int .i64 a1_1] 33 (0, 0))) ∧ (Below w.heap.size w w')) ?_ ?_
  rotate_left
  ·intro hJ4_9_10_11
   refine join_ (σ := Nat) 2 #[true, true, true, true, true, true, true, true, true, true, true, false, true, false] (fun s_ => [(10, .agg #[.int .u64 t578, .int .u64 t579, .bool t580]), (15, .agg #[.int .u64 t581, .int .u64 t582, .bool t583]), (16, .agg #[.int .u64 t584, .int .u64 t585, .bool t586]), (5, .pointer (some ⟨s_, 0, none⟩))]) (fun s_ w' => (w'.cell? ⟨gb576, 0, none⟩ = some (.int .i64 a0_0) ∧ w'.cell? ⟨gb576, 1, none⟩ = some (.int .i64 a0_1) ∧ w'.cell? ⟨gb577, 0, none⟩ = some (.int .i64 a1_0) ∧ w'.cell? ⟨gb577, 1, none⟩ = some (.int .i64 a1_1)) ∧ (w'.heap[gb576]? = some (.cells #[.int .i64 a0_0, .int .i64 a0_1] 33 (0, 0))) ∧ (w'.heap[gb577]? = some (.cells #[.int .i64 a1_0, .int .i64 a1_1] 33 (0, 0))) ∧ (w'.heap[s_]? = some (.cells #[.int .u64 0, .int .u64 0, .bool false] 82 (0, 0))) ∧ (w.heap.size ≤ s_) ∧ (w.heap.size ≤ s_) ∧ (gb576 ≠ s_) ∧ (s_ ≠ gb576) ∧ (gb577 ≠ s_) ∧ (s_ ≠ gb577) ∧ (Below w.heap.size w w')) ?_ ?_
   rotate_left
   ·intro hJ4_9_10_12
    refine join_ (σ := Unit) 3 #[true, true, true, true, true, true, true, true, true, true, true, false, false, false] (fun s_ => [(10, .agg #[.int .u64 t578, .int .u64 t579, .bool t580]), (15, .agg #[.int .u64 t581, .int .u64 t582, .bool t583]), (16, .agg #[.int .u64 t584, .int .u64 t585, .bool t586])]) (fun s_ w' => (w'.cell? ⟨gb576, 0, none⟩ = some (.int .i64 a0_0) ∧ w'.cell? ⟨gb576, 1, none⟩ = some (.int .i64 a0_1) ∧ w'.cell? ⟨gb577, 0, none⟩ = some (.int .i64 a1_0) ∧ w'.cell? ⟨gb577, 1, none⟩ = some (.int .i64 a1_1)) ∧ (w'.heap[gb576]? = some (.cells #[.int .i64 a0_0, .int .i64 a0_1] 33 (0, 0))) ∧ (w'.heap[gb577]? = some (.cells #[.int .i64 a1_0, .int .i64 a1_1] 33 (0, 0))) ∧ (Below w.heap.size w w')) ?_ ?_
    rotate_left
    ·intro hJ4_9_10
     refine join_ (σ := Nat) 3 #[true, true, true, true, true, true, true, true, true, true, false, false, true, false] (fun s_ => [(10, .agg #[.int .u64 t578, .int .u64 t579, .bool t580]), (15, .agg #[.int .u64 t581, .int .u64 t582, .bool t583]), (5, .pointer (some ⟨s_, 0, none⟩))]) (fun s_ w' => (w'.cell? ⟨gb576, 0, none⟩ = some (.int .i64 a0_0) ∧ w'.cell? ⟨gb576, 1, none⟩ = some (.int .i64 a0_1) ∧ w'.cell? ⟨gb577, 0, none⟩ = some (.int .i64 a1_0) ∧ w'.cell? ⟨gb577, 1, none⟩ = some (.int .i64 a1_1)) ∧ (w'.heap[gb576]? = some (.cells #[.int .i64 a0_0, .int .i64 a0_1] 33 (0, 0))) ∧ (w'.heap[gb577]? = some (.cells #[.int .i64 a1_0, .int .i64 a1_1] 33 (0, 0))) ∧ (w'.heap[s_]? = some (.cells #[.int .u64 0, .int .u64 0, .bool false] 82 (0, 0))) ∧ (w.heap.size ≤ s_) ∧ (w.heap.size ≤ s_) ∧ (gb576 ≠ s_) ∧ (s_ ≠ gb576) ∧ (gb577 ≠ s_) ∧ (s_ ≠ gb577) ∧ (Below w.heap.size w w')) ?_ ?_
     rotate_left
     ·intro hJ4_9_12
      refine join_ (σ := Unit) 4 #[true, true, true, true, true, true, true, true, true, true, false, false, false, false] (fun s_ => [(10, .agg #[.int .u64 t578, .int .u64 t579, .bool t580]), (15, .agg #[.int .u64 t581, .int .u64 t582, .bool t583])]) (fun s_ w' => (w'.cell? ⟨gb576, 0, none⟩ = some (.int .i64 a0_0) ∧ w'.cell? ⟨gb576, 1, none⟩ = some (.int .i64 a0_1) ∧ w'.cell? ⟨gb577, 0, none⟩ = some (.int .i64 a1_0) ∧ w'.cell? ⟨gb577, 1, none⟩ = some (.int .i64 a1_1)) ∧ (w'.heap[gb576]? = some (.cells #[.int .i64 a0_0, .int .i64 a0_1] 33 (0, 0))) ∧ (w'.heap[gb577]? = some (.cells #[.int .i64 a1_0, .int .i64 a1_1] 33 (0, 0))) ∧ (Below w.heap.size w w')) ?_ ?_
      rotate_left
      ·intro hJ4_9
       refine join_ (σ := Nat) 4 #[true, true, true, true, true, true, true, true, true, false, false, false, true, false] (fun s_ => [(10, .agg #[.int .u64 t578, .int .u64 t579, .bool t580]), (5, .pointer (some ⟨s_, 0, none⟩))]) (fun s_ w' => (w'.cell? ⟨gb576, 0, none⟩ = some (.int .i64 a0_0) ∧ w'.cell? ⟨gb576, 1, none⟩ = some (.int .i64 a0_1) ∧ w'.cell? ⟨gb577, 0, none⟩ = some (.int .i64 a1_0) ∧ w'.cell? ⟨gb577, 1, none⟩ = some (.int .i64 a1_1)) ∧ (w'.heap[gb576]? = some (.cells #[.int .i64 a0_0, .int .i64 a0_1] 33 (0, 0))) ∧ (w'.heap[gb577]? = some (.cells #[.int .i64 a1_0, .int .i64 a1_1] 33 (0, 0))) ∧ (w'.heap[s_]? = some (.cells #[.int .u64 0, .int .u64 0, .bool false] 82 (0, 0))) ∧ (w.heap.size ≤ s_) ∧ (w.heap.size ≤ s_) ∧ (gb576 ≠ s_) ∧ (s_ ≠ gb576) ∧ (gb577 ≠ s_) ∧ (s_ ≠ gb577) ∧ (Below w.heap.size w w')) ?_ ?_
       rotate_left
       ·intro hJ4_12
        refine join_ (σ := Unit) 5 #[true, true, true, true, true, true, true, true, true, false, false, false, false, false] (fun s_ => [(10, .agg #[.int .u64 t578, .int .u64 t579, .bool t580])]) (fun s_ w' => (w'.cell? ⟨gb576, 0, none⟩ = some (.int .i64 a0_0) ∧ w'.cell? ⟨gb576, 1, none⟩ = some (.int .i64 a0_1) ∧ w'.cell? ⟨gb577, 0, none⟩ = some (.int .i64 a1_0) ∧ w'.cell? ⟨gb577, 1, none⟩ = some (.int .i64 a1_1)) ∧ (w'.heap[gb576]? = some (.cells #[.int .i64 a0_0, .int .i64 a0_1] 33 (0, 0))) ∧ (w'.heap[gb577]? = some (.cells #[.int .i64 a1_0, .int .i64 a1_1] 33 (0, 0))) ∧ (Below w.heap.size w w')) ?_ ?_
        rotate_left
        ·intro hJ4
         refine join_ (σ := Nat) 5 #[true, true, true, true, false, true, true, true, true, false, false, false, true, false] (fun s_ => [(5, .pointer (some ⟨s_, 0, none⟩))]) (fun s_ w' => (w'.cell? ⟨gb576, 0, none⟩ = some (.int .i64 a0_0) ∧ w'.cell? ⟨gb576, 1, none⟩ = some (.int .i64 a0_1) ∧ w'.cell? ⟨gb577, 0, none⟩ = some (.int .i64 a1_0) ∧ w'.cell? ⟨gb577, 1, none⟩ = some (.int .i64 a1_1)) ∧ (w'.heap[gb576]? = some (.cells #[.int .i64 a0_0, .int .i64 a0_1] 33 (0, 0))) ∧ (w'.heap[gb577]? = some (.cells #[.int .i64 a1_0, .int .i64 a1_1] 33 (0, 0))) ∧ (w'.heap[s_]? = some (.cells #[.int .u64 0, .int .u64 0, .bool false] 82 (0, 0))) ∧ (w.heap.size ≤ s_) ∧ (w.heap.size ≤ s_) ∧ (gb576 ≠ s_) ∧ (s_ ≠ gb576) ∧ (gb577 ≠ s_) ∧ (s_ ≠ gb577) ∧ (Below w.heap.size w w')) ?_ ?_
         rotate_left
         ·intro hJ12
          refine two_ (i := 4) (j := 12) (Ni := some 10) (Nj := some 5) #[true, true, true, true, true, true, true, true, true, false, false, false, false, false] #[true, true, true, true, false, true, true, true, true, false, false, false, true, false] rfl rfl rfl rfl (two_of HT_.out (by kernel_rfl)) (by decide) (by decide) (fun K hK => ?_) (fun K hK => ?_)
          ·skip
           refine goes_ Try.func74 (by kernel_rfl) rfl #[.int .i64 a0_0, .int .i64 a1_1] (by rfl) rfl rfl (by (try simp only [List.map_toArray, List.map_cons, List.map_nil]); first | done | rfl | (simp only [List.length_drop, List.length_take]; rfl)) ?_
           with_reducible refine (gangsawref04_times.calls a0_0 a1_1 t578 t579 t580 _ A3.out).mono ?_
           rintro e w46 ⟨rfl, hb⟩
           refine ⟨_, rfl, ?_⟩
           have n0_ := aK (zB (g := gb576) (o := .cells #[.int .i64 a0_0, .int .i64 a0_1] 33 (0, 0)) (BK576.out) hb)
           have n1_ := aK (zB (g := gb577) (o := .cells #[.int .i64 a1_0, .int .i64 a1_1] 33 (0, 0)) (BK577.out) hb)
           have n2_ := aK (yT (HB.out) hb)
           clear BK576
           clear BK577
           clear HB
           have BK576 := n0_
           have BK577 := n1_
           have HB := n2_
           clear n0_ n1_ n2_
           (try clear hb)
           (try clear hb2)
           (try clear hk)
           (try clear hi)
           refine hK.out _ _ ⟨(zC BK576.out 0).trans rfl, (zC BK576.out 1).trans rfl, (zC BK577.out 0).trans rfl, (zC BK577.out 1).trans rfl⟩ (fun hHeld => ?_)
           clear hK K
           refine norm_ (a' := ?_) ?_ ?_
           rotate_left
           ·show Act.put _ (some 10) _ = _
            simp only [Act.put, sA, sZ, sS, i64_w, i32_w]
            rfl
           exact norm_ (by first | (simp only [putAll, Act.put, sA, sZ, sS]; done) | (simp only [putAll, Act.put, sA, sZ, sS]; rfl)) (hJ4 () _ ⟨hHeld, (BK576.out), (BK577.out), (HB.out)⟩)
          ·skip
           refine box_step ?hg (N := 5) ?hd (cs := #[.int .u64 0, .int .u64 0, .bool false]) (t := 82) ?hr ?_; (case hd => rfl); (case hg => rfl); (case hr => first | (go_simp; done) | (go_simp; rfl))
           intro gb590 hg w46 hbox hb
           have n0_ := aK (zB (g := gb576) (o := .cells #[.int .i64 a0_0, .int .i64 a0_1] 33 (0, 0)) (BK576.out) hb)
           have n1_ := aK (zB (g := gb577) (o := .cells #[.int .i64 a1_0, .int .i64 a1_1] 33 (0, 0)) (BK577.out) hb)
           have n2_ := aK (yT (HB.out) hb)
           have n3_ := aK (hbox)
           have n4_ := aK ((by rw [hg]; exact (yZ (HB.out)) : w.heap.size ≤ gb590))
           have n5_ := aK ((by rw [hg]; exact (yZ (HB.out)) : w.heap.size ≤ gb590))
           have n6_ := aK ((by rw [hg]; exact Nat.ne_of_lt (blk_lt (g := gb576) (o := .cells #[.int .i64 a0_0, .int .i64 a0_1] 33 (0, 0)) (BK576.out)) : gb576 ≠ gb590))
           have n7_ := aK ((by rw [hg]; exact Nat.ne_of_gt (blk_lt (g := gb576) (o := .cells #[.int .i64 a0_0, .int .i64 a0_1] 33 (0, 0)) (BK576.out)) : gb590 ≠ gb576))
           have n8_ := aK ((by rw [hg]; exact Nat.ne_of_lt (blk_lt (g := gb577) (o := .cells #[.int .i64 a1_0, .int .i64 a1_1] 33 (0, 0)) (BK577.out)) : gb577 ≠ gb590))
           have n9_ := aK ((by rw [hg]; exact Nat.ne_of_gt (blk_lt (g := gb577) (o := .cells #[.int .i64 a1_0, .int .i64 a1_1] 33 (0, 0)) (BK577.out)) : gb590 ≠ gb577))
           clear BK576
           clear BK577
           clear HB
           have BK576 := n0_
           have BK577 := n1_
           have HB := n2_
           have BK590 := n3_
           have GW590 := n4_
           have GE590 := n5_
           have NB576_590 := n6_
           have NB590_576 := n7_
           have NB577_590 := n8_
           have NB590_577 := n9_
           clear n0_ n1_ n2_ n3_ n4_ n5_ n6_ n7_ n8_ n9_
           clear hb hbox hg
           refine hK.out _ _ ⟨(zC BK576.out 0).trans rfl, (zC BK576.out 1).trans rfl, (zC BK577.out 0).trans rfl, (zC BK577.out 1).trans rfl⟩ (fun hHeld => ?_)
           clear hK K
           refine norm_ (a' := ?_) ?_ ?_
           rotate_left
           ·show Act.put _ (some 5) _ = _
            simp only [Act.put, sA, sZ, sS, i64_w, i32_w]
            rfl
           exact norm_ (by first | (simp only [putAll, Act.put, sA, sZ, sS]; done) | (simp only [putAll, Act.put, sA, sZ, sS]; rfl)) (hJ12 (gb590) _ ⟨hHeld, (BK576.out), (BK577.out), (BK590.out), GW590.out, GE590.out, NB576_590.out, NB590_576.out, NB577_590.out, NB590_577.out, (HB.out)⟩)
         ·skip
          rintro gb590 w47 ⟨hS_, h0_, h1_, h2_, h3_, h4_, h5_, h6_, h7_, h8_, h9_⟩
          have n0_ : Aside0 (w47.heap[gb576]? = some (.cells #[.int .i64 a0_0, .int .i64 a0_1] 33 (0, 0))) := ⟨h0_⟩
          have n1_ : Aside0 (w47.heap[gb577]? = some (.cells #[.int .i64 a1_0, .int .i64 a1_1] 33 (0, 0))) := ⟨h1_⟩
          have n2_ : Aside0 (w47.heap[gb590]? = some (.cells #[.int .u64 0, .int .u64 0, .bool false] 82 (0, 0))) := ⟨h2_⟩
          have n3_ : Aside0 (w.heap.size ≤ gb590) := ⟨h3_⟩
          have n4_ : Aside0 (w.heap.size ≤ gb590) := ⟨h4_⟩
          have n5_ : Aside0 (gb576 ≠ gb590) := ⟨h5_⟩
          have n6_ : Aside0 (gb590 ≠ gb576) := ⟨h6_⟩
          have n7_ : Aside0 (gb577 ≠ gb590) := ⟨h7_⟩
          have n8_ : Aside0 (gb590 ≠ gb577) := ⟨h8_⟩
          have n9_ : Aside0 (Below w.heap.size w w47) := ⟨h9_⟩
          clear BK576
          clear BK577
          clear HB
          clear h0_ h1_ h2_ h3_ h4_ h5_ h6_ h7_ h8_ h9_
          have BK576 := n0_
          have BK577 := n1_
          have BK590 := n2_
          have GW590 := n3_
          have GE590 := n4_
          have NB576_590 := n5_
          have NB590_576 := n6_
          have NB577_590 := n7_
          have NB590_577 := n8_
          have HB := n9_
          clear n0_ n1_ n2_ n3_ n4_ n5_ n6_ n7_ n8_ n9_
          have hHeld : w47.cell? ⟨gb576, 0, none⟩ = some (.int .i64 a0_0) ∧ w47.cell? ⟨gb576, 1, none⟩ = some (.int .i64 a0_1) ∧ w47.cell? ⟨gb577, 0, none⟩ = some (.int .i64 a1_0) ∧ w47.cell? ⟨gb577, 1, none⟩ = some (.int .i64 a1_1) := hS_
          refine norm_ (a' := ?_) ?_ ?_
          rotate_left
          ·simp only [putAll, Act.put, sA, sZ, sS]
           rfl
          refine one_ (i := 4) (N := some 10) #[true, true, true, true, true, true, true, true, true, false, false, false, true, false] rfl rfl (one_of HT_.out (by kernel_rfl)) (by decide) (fun K hK => ?_)
          refine goes_ Try.func74 (by kernel_rfl) rfl #[.int .i64 a0_0, .int .i64 a1_1] (by rfl) rfl rfl (by (try simp only [List.map_toArray, List.map_cons, List.map_nil]); first | done | rfl | (simp only [List.length_drop, List.length_take]; rfl)) ?_
          with_reducible refine (gangsawref04_times.calls a0_0 a1_1 t578 t579 t580 _ A3.out).mono ?_
          rintro e w48 ⟨rfl, hb⟩
          refine ⟨_, rfl, ?_⟩
          have n0_ := aK (zB (g := gb576) (o := .cells #[.int .i64 a0_0, .int .i64 a0_1] 33 (0, 0)) (BK576.out) hb)
          have n1_ := aK (zB (g := gb577) (o := .cells #[.int .i64 a1_0, .int .i64 a1_1] 33 (0, 0)) (BK577.out) hb)
          have n2_ := aK (zB (g := gb590) (o := .cells #[.int .u64 0, .int .u64 0, .bool false] 82 (0, 0)) (BK590.out) hb)
          have n3_ := aK (yT (HB.out) hb)
          clear BK576
          clear BK577
          clear BK590
          clear HB
          have BK576 := n0_
          have BK577 := n1_
          have BK590 := n2_
          have HB := n3_
          clear n0_ n1_ n2_ n3_
          (try clear hb)
          (try clear hb2)
          (try clear hk)
          (try clear hi)
          refine hK.out _ _ ⟨(zC BK576.out 0).trans rfl, (zC BK576.out 1).trans rfl, (zC BK577.out 0).trans rfl, (zC BK577.out 1).trans rfl⟩ (fun hHeld => ?_)
          clear hK K
          refine norm_ (a' := ?_) ?_ ?_
          rotate_left
          ·show Act.put _ (some 10) _ = _
           simp only [Act.put, sA, sZ, sS, i64_w, i32_w]
           rfl
          exact norm_ (by first | (simp only [putAll, Act.put, sA, sZ, sS]; done) | (simp only [putAll, Act.put, sA, sZ, sS]; rfl)) (hJ4_12 (gb590) _ ⟨hHeld, (BK576.out), (BK577.out), (BK590.out), GW590.out, GE590.out, NB576_590.out, NB590_576.out, NB577_590.out, NB590_577.out, (HB.out)⟩)
        ·skip
         rintro _ w47 ⟨hS_, h0_, h1_, h2_⟩
         have n0_ : Aside0 (w47.heap[gb576]? = some (.cells #[.int .i64 a0_0, .int .i64 a0_1] 33 (0, 0))) := ⟨h0_⟩
         have n1_ : Aside0 (w47.heap[gb577]? = some (.cells #[.int .i64 a1_0, .int .i64 a1_1] 33 (0, 0))) := ⟨h1_⟩
         have n2_ : Aside0 (Below w.heap.size w w47) := ⟨h2_⟩
         clear BK576
         clear BK577
         clear HB
         clear h0_ h1_ h2_
         have BK576 := n0_
         have BK577 := n1_
         have HB := n2_
         clear n0_ n1_ n2_
         have hHeld : w47.cell? ⟨gb576, 0, none⟩ = some (.int .i64 a0_0) ∧ w47.cell? ⟨gb576, 1, none⟩ = some (.int .i64 a0_1) ∧ w47.cell? ⟨gb577, 0, none⟩ = some (.int .i64 a1_0) ∧ w47.cell? ⟨gb577, 1, none⟩ = some (.int .i64 a1_1) := hS_
         refine norm_ (a' := ?_) ?_ ?_
         rotate_left
         ·simp only [putAll, Act.put, sA, sZ, sS]
          rfl
         refine two_ (i := 9) (j := 12) (Ni := some 15) (Nj := some 5) #[true, true, true, true, true, true, true, true, true, true, false, false, false, false] #[true, true, true, true, true, true, true, true, true, false, false, false, true, false] rfl rfl rfl rfl (two_of HT_.out (by kernel_rfl)) (by decide) (by decide) (fun K hK => ?_) (fun K hK => ?_)
         ·skip
          refine goes_ Try.func74 (by kernel_rfl) rfl #[.int .i64 a1_0, .int .i64 a0_1] (by rfl) rfl rfl (by (try simp only [List.map_toArray, List.map_cons, List.map_nil]); first | done | rfl | (simp only [List.length_drop, List.length_take]; rfl)) ?_
          with_reducible refine (gangsawref04_times.calls a1_0 a0_1 t581 t582 t583 _ A4.out).mono ?_
          rintro e w48 ⟨rfl, hb⟩
          refine ⟨_, rfl, ?_⟩
          have n0_ := aK (zB (g := gb576) (o := .cells #[.int .i64 a0_0, .int .i64 a0_1] 33 (0, 0)) (BK576.out) hb)
          have n1_ := aK (zB (g := gb577) (o := .cells #[.int .i64 a1_0, .int .i64 a1_1] 33 (0, 0)) (BK577.out) hb)
          have n2_ := aK (yT (HB.out) hb)
          clear BK576
          clear BK577
          clear HB
          have BK576 := n0_
          have BK577 := n1_
          have HB := n2_
          clear n0_ n1_ n2_
          (try clear hb)
          (try clear hb2)
          (try clear hk)
          (try clear hi)
          refine hK.out _ _ ⟨(zC BK576.out 0).trans rfl, (zC BK576.out 1).trans rfl, (zC BK577.out 0).trans rfl, (zC BK577.out 1).trans rfl⟩ (fun hHeld => ?_)
          clear hK K
          refine norm_ (a' := ?_) ?_ ?_
          rotate_left
          ·show Act.put _ (some 15) _ = _
           simp only [Act.put, sA, sZ, sS, i64_w, i32_w]
           rfl
          exact norm_ (by first | (simp only [putAll, Act.put, sA, sZ, sS]; done) | (simp only [putAll, Act.put, sA, sZ, sS]; rfl)) (hJ4_9 () _ ⟨hHeld, (BK576.out), (BK577.out), (HB.out)⟩)
         ·skip
          refine box_step ?hg (N := 5) ?hd (cs := #[.int .u64 0, .int .u64 0, .bool false]) (t := 82) ?hr ?_; (case hd => rfl); (case hg => rfl); (case hr => first | (go_simp; done) | (go_simp; rfl))
          intro gb590 hg w48 hbox hb
          have n0_ := aK (zB (g := gb576) (o := .cells #[.int .i64 a0_0, .int .i64 a0_1] 33 (0, 0)) (BK576.out) hb)
          have n1_ := aK (zB (g := gb577) (o := .cells #[.int .i64 a1_0, .int .i64 a1_1] 33 (0, 0)) (BK577.out) hb)
          have n2_ := aK (yT (HB.out) hb)
          have n3_ := aK (hbox)
          have n4_ := aK ((by rw [hg]; exact (yZ (HB.out)) : w.heap.size ≤ gb590))
          have n5_ := aK ((by rw [hg]; exact (yZ (HB.out)) : w.heap.size ≤ gb590))
          have n6_ := aK ((by rw [hg]; exact Nat.ne_of_lt (blk_lt (g := gb576) (o := .cells #[.int .i64 a0_0, .int .i64 a0_1] 33 (0, 0)) (BK576.out)) : gb576 ≠ gb590))
          have n7_ := aK ((by rw [hg]; exact Nat.ne_of_gt (blk_lt (g := gb576) (o := .cells #[.int .i64 a0_0, .int .i64 a0_1] 33 (0, 0)) (BK576.out)) : gb590 ≠ gb576))
          have n8_ := aK ((by rw [hg]; exact Nat.ne_of_lt (blk_lt (g := gb577) (o := .cells #[.int .i64 a1_0, .int .i64 a1_1] 33 (0, 0)) (BK577.out)) : gb577 ≠ gb590))
          have n9_ := aK ((by rw [hg]; exact Nat.ne_of_gt (blk_lt (g := gb577) (o := .cells #[.int .i64 a1_0, .int .i64 a1_1] 33 (0, 0)) (BK577.out)) : gb590 ≠ gb577))
          clear BK576
          clear BK577
          clear HB
          have BK576 := n0_
          have BK577 := n1_
          have HB := n2_
          have BK590 := n3_
          have GW590 := n4_
          have GE590 := n5_
          have NB576_590 := n6_
          have NB590_576 := n7_
          have NB577_590 := n8_
          have NB590_577 := n9_
          clear n0_ n1_ n2_ n3_ n4_ n5_ n6_ n7_ n8_ n9_
          clear hb hbox hg
          refine hK.out _ _ ⟨(zC BK576.out 0).trans rfl, (zC BK576.out 1).trans rfl, (zC BK577.out 0).trans rfl, (zC BK577.out 1).trans rfl⟩ (fun hHeld => ?_)
          clear hK K
          refine norm_ (a' := ?_) ?_ ?_
          rotate_left
          ·show Act.put _ (some 5) _ = _
           simp only [Act.put, sA, sZ, sS, i64_w, i32_w]
           rfl
          exact norm_ (by first | (simp only [putAll, Act.put, sA, sZ, sS]; done) | (simp only [putAll, Act.put, sA, sZ, sS]; rfl)) (hJ4_12 (gb590) _ ⟨hHeld, (BK576.out), (BK577.out), (BK590.out), GW590.out, GE590.out, NB576_590.out, NB590_576.out, NB577_590.out, NB590_577.out, (HB.out)⟩)
       ·skip
        rintro gb590 w48 ⟨hS_, h0_, h1_, h2_, h3_, h4_, h5_, h6_, h7_, h8_, h9_⟩
        have n0_ : Aside0 (w48.heap[gb576]? = some (.cells #[.int .i64 a0_0, .int .i64 a0_1] 33 (0, 0))) := ⟨h0_⟩
        have n1_ : Aside0 (w48.heap[gb577]? = some (.cells #[.int .i64 a1_0, .int .i64 a1_1] 33 (0, 0))) := ⟨h1_⟩
        have n2_ : Aside0 (w48.heap[gb590]? = some (.cells #[.int .u64 0, .int .u64 0, .bool false] 82 (0, 0))) := ⟨h2_⟩
        have n3_ : Aside0 (w.heap.size ≤ gb590) := ⟨h3_⟩
        have n4_ : Aside0 (w.heap.size ≤ gb590) := ⟨h4_⟩
        have n5_ : Aside0 (gb576 ≠ gb590) := ⟨h5_⟩
        have n6_ : Aside0 (gb590 ≠ gb576) := ⟨h6_⟩
        have n7_ : Aside0 (gb577 ≠ gb590) := ⟨h7_⟩
        have n8_ : Aside0 (gb590 ≠ gb577) := ⟨h8_⟩
        have n9_ : Aside0 (Below w.heap.size w w48) := ⟨h9_⟩
        clear BK576
        clear BK577
        clear HB
        clear h0_ h1_ h2_ h3_ h4_ h5_ h6_ h7_ h8_ h9_
        have BK576 := n0_
        have BK577 := n1_
        have BK590 := n2_
        have GW590 := n3_
        have GE590 := n4_
        have NB576_590 := n5_
        have NB590_576 := n6_
        have NB577_590 := n7_
        have NB590_577 := n8_
        have HB := n9_
        clear n0_ n1_ n2_ n3_ n4_ n5_ n6_ n7_ n8_ n9_
        have hHeld : w48.cell? ⟨gb576, 0, none⟩ = some (.int .i64 a0_0) ∧ w48.cell? ⟨gb576, 1, none⟩ = some (.int .i64 a0_1) ∧ w48.cell? ⟨gb577, 0, none⟩ = some (.int .i64 a1_0) ∧ w48.cell? ⟨gb577, 1, none⟩ = some (.int .i64 a1_1) := hS_
        refine norm_ (a' := ?_) ?_ ?_
        rotate_left
        ·simp only [putAll, Act.put, sA, sZ, sS]
         rfl
        refine one_ (i := 9) (N := some 15) #[true, true, true, true, true, true, true, true, true, true, false, false, true, false] rfl rfl (one_of HT_.out (by kernel_rfl)) (by decide) (fun K hK => ?_)
        refine goes_ Try.func74 (by kernel_rfl) rfl #[.int .i64 a1_0, .int .i64 a0_1] (by rfl) rfl rfl (by (try simp only [List.map_toArray, List.map_cons, List.map_nil]); first | done | rfl | (simp only [List.length_drop, List.length_take]; rfl)) ?_
        with_reducible refine (gangsawref04_times.calls a1_0 a0_1 t581 t582 t583 _ A4.out).mono ?_
        rintro e w49 ⟨rfl, hb⟩
        refine ⟨_, rfl, ?_⟩
        have n0_ := aK (zB (g := gb576) (o := .cells #[.int .i64 a0_0, .int .i64 a0_1] 33 (0, 0)) (BK576.out) hb)
        have n1_ := aK (zB (g := gb577) (o := .cells #[.int .i64 a1_0, .int .i64 a1_1] 33 (0, 0)) (BK577.out) hb)
        have n2_ := aK (zB (g := gb590) (o := .cells #[.int .u64 0, .int .u64 0, .bool false] 82 (0, 0)) (BK590.out) hb)
        have n3_ := aK (yT (HB.out) hb)
        clear BK576
        clear BK577
        clear BK590
        clear HB
        have BK576 := n0_
        have BK577 := n1_
        have BK590 := n2_
        have HB := n3_
        clear n0_ n1_ n2_ n3_
        (try clear hb)
        (try clear hb2)
        (try clear hk)
        (try clear hi)
        refine hK.out _ _ ⟨(zC BK576.out 0).trans rfl, (zC BK576.out 1).trans rfl, (zC BK577.out 0).trans rfl, (zC BK577.out 1).trans rfl⟩ (fun hHeld => ?_)
        clear hK K
        refine norm_ (a' := ?_) ?_ ?_
        rotate_left
        ·show Act.put _ (some 15) _ = _
         simp only [Act.put, sA, sZ, sS, i64_w, i32_w]
         rfl
        exact norm_ (by first | (simp only [putAll, Act.put, sA, sZ, sS]; done) | (simp only [putAll, Act.put, sA, sZ, sS]; rfl)) (hJ4_9_12 (gb590) _ ⟨hHeld, (BK576.out), (BK577.out), (BK590.out), GW590.out, GE590.out, NB576_590.out, NB590_576.out, NB577_590.out, NB590_577.out, (HB.out)⟩)
      ·skip
       rintro _ w48 ⟨hS_, h0_, h1_, h2_⟩
       have n0_ : Aside0 (w48.heap[gb576]? = some (.cells #[.int .i64 a0_0, .int .i64 a0_1] 33 (0, 0))) := ⟨h0_⟩
       have n1_ : Aside0 (w48.heap[gb577]? = some (.cells #[.int .i64 a1_0, .int .i64 a1_1] 33 (0, 0))) := ⟨h1_⟩
       have n2_ : Aside0 (Below w.heap.size w w48) := ⟨h2_⟩
       clear BK576
       clear BK577
       clear HB
       clear h0_ h1_ h2_
       have BK576 := n0_
       have BK577 := n1_
       have HB := n2_
       clear n0_ n1_ n2_
       have hHeld : w48.cell? ⟨gb576, 0, none⟩ = some (.int .i64 a0_0) ∧ w48.cell? ⟨gb576, 1, none⟩ = some (.int .i64 a0_1) ∧ w48.cell? ⟨gb577, 0, none⟩ = some (.int .i64 a1_0) ∧ w48.cell? ⟨gb577, 1, none⟩ = some (.int .i64 a1_1) := hS_
       refine norm_ (a' := ?_) ?_ ?_
       rotate_left
       ·simp only [putAll, Act.put, sA, sZ, sS]
        rfl
       refine two_ (i := 10) (j := 12) (Ni := some 16) (Nj := some 5) #[true, true, true, true, true, true, true, true, true, true, true, false, false, false] #[true, true, true, true, true, true, true, true, true, true, false, false, true, false] rfl rfl rfl rfl (two_of HT_.out (by kernel_rfl)) (by decide) (by decide) (fun K hK => ?_) (fun K hK => ?_)
       ·skip
        refine goes_ Try.func75 (by kernel_rfl) rfl #[.agg #[.int .u64 t581, .int .u64 t582, .bool t583]] (by rfl) rfl rfl (by (try simp only [List.map_toArray, List.map_cons, List.map_nil]); first | done | rfl | (simp only [List.length_drop, List.length_take]; rfl)) ?_
        with_reducible refine (gangsawref04_minus.calls t581 t582 t583 t584 t585 t586 _ A5.out).mono ?_
        rintro e w49 ⟨rfl, hb⟩
        refine ⟨_, rfl, ?_⟩
        have n0_ := aK (zB (g := gb576) (o := .cells #[.int .i64 a0_0, .int .i64 a0_1] 33 (0, 0)) (BK576.out) hb)
        have n1_ := aK (zB (g := gb577) (o := .cells #[.int .i64 a1_0, .int .i64 a1_1] 33 (0, 0)) (BK577.out) hb)
        have n2_ := aK (yT (HB.out) hb)
        clear BK576
        clear BK577
        clear HB
        have BK576 := n0_
        have BK577 := n1_
        have HB := n2_
        clear n0_ n1_ n2_
        (try clear hb)
        (try clear hb2)
        (try clear hk)
        (try clear hi)
        refine hK.out _ _ ⟨(zC BK576.out 0).trans rfl, (zC BK576.out 1).trans rfl, (zC BK577.out 0).trans rfl, (zC BK577.out 1).trans rfl⟩ (fun hHeld => ?_)
        clear hK K
        refine norm_ (a' := ?_) ?_ ?_
        rotate_left
        ·show Act.put _ (some 16) _ = _
         simp only [Act.put, sA, sZ, sS, i64_w, i32_w]
         rfl
        exact norm_ (by first | (simp only [putAll, Act.put, sA, sZ, sS]; done) | (simp only [putAll, Act.put, sA, sZ, sS]; rfl)) (hJ4_9_10 () _ ⟨hHeld, (BK576.out), (BK577.out), (HB.out)⟩)
       ·skip
        refine box_step ?hg (N := 5) ?hd (cs := #[.int .u64 0, .int .u64 0, .bool false]) (t := 82) ?hr ?_; (case hd => rfl); (case hg => rfl); (case hr => first | (go_simp; done) | (go_simp; rfl))
        intro gb590 hg w49 hbox hb
        have n0_ := aK (zB (g := gb576) (o := .cells #[.int .i64 a0_0, .int .i64 a0_1] 33 (0, 0)) (BK576.out) hb)
        have n1_ := aK (zB (g := gb577) (o := .cells #[.int .i64 a1_0, .int .i64 a1_1] 33 (0, 0)) (BK577.out) hb)
        have n2_ := aK (yT (HB.out) hb)
        have n3_ := aK (hbox)
        have n4_ := aK ((by rw [hg]; exact (yZ (HB.out)) : w.heap.size ≤ gb590))
        have n5_ := aK ((by rw [hg]; exact (yZ (HB.out)) : w.heap.size ≤ gb590))
        have n6_ := aK ((by rw [hg]; exact Nat.ne_of_lt (blk_lt (g := gb576) (o := .cells #[.int .i64 a0_0, .int .i64 a0_1] 33 (0, 0)) (BK576.out)) : gb576 ≠ gb590))
        have n7_ := aK ((by rw [hg]; exact Nat.ne_of_gt (blk_lt (g := gb576) (o := .cells #[.int .i64 a0_0, .int .i64 a0_1] 33 (0, 0)) (BK576.out)) : gb590 ≠ gb576))
        have n8_ := aK ((by rw [hg]; exact Nat.ne_of_lt (blk_lt (g := gb577) (o := .cells #[.int .i64 a1_0, .int .i64 a1_1] 33 (0, 0)) (BK577.out)) : gb577 ≠ gb590))
        have n9_ := aK ((by rw [hg]; exact Nat.ne_of_gt (blk_lt (g := gb577) (o := .cells #[.int .i64 a1_0, .int .i64 a1_1] 33 (0, 0)) (BK577.out)) : gb590 ≠ gb577))
        clear BK576
        clear BK577
        clear HB
        have BK576 := n0_
        have BK577 := n1_
        have HB := n2_
        have BK590 := n3_
        have GW590 := n4_
        have GE590 := n5_
        have NB576_590 := n6_
        have NB590_576 := n7_
        have NB577_590 := n8_
        have NB590_577 := n9_
        clear n0_ n1_ n2_ n3_ n4_ n5_ n6_ n7_ n8_ n9_
        clear hb hbox hg
        refine hK.out _ _ ⟨(zC BK576.out 0).trans rfl, (zC BK576.out 1).trans rfl, (zC BK577.out 0).trans rfl, (zC BK577.out 1).trans rfl⟩ (fun hHeld => ?_)
        clear hK K
        refine norm_ (a' := ?_) ?_ ?_
        rotate_left
        ·show Act.put _ (some 5) _ = _
         simp only [Act.put, sA, sZ, sS, i64_w, i32_w]
         rfl
        exact norm_ (by first | (simp only [putAll, Act.put, sA, sZ, sS]; done) | (simp only [putAll, Act.put, sA, sZ, sS]; rfl)) (hJ4_9_12 (gb590) _ ⟨hHeld, (BK576.out), (BK577.out), (BK590.out), GW590.out, GE590.out, NB576_590.out, NB590_576.out, NB577_590.out, NB590_577.out, (HB.out)⟩)
     ·skip
      rintro gb590 w49 ⟨hS_, h0_, h1_, h2_, h3_, h4_, h5_, h6_, h7_, h8_, h9_⟩
      have n0_ : Aside0 (w49.heap[gb576]? = some (.cells #[.int .i64 a0_0, .int .i64 a0_1] 33 (0, 0))) := ⟨h0_⟩
      have n1_ : Aside0 (w49.heap[gb577]? = some (.cells #[.int .i64 a1_0, .int .i64 a1_1] 33 (0, 0))) := ⟨h1_⟩
      have n2_ : Aside0 (w49.heap[gb590]? = some (.cells #[.int .u64 0, .int .u64 0, .bool false] 82 (0, 0))) := ⟨h2_⟩
      have n3_ : Aside0 (w.heap.size ≤ gb590) := ⟨h3_⟩
      have n4_ : Aside0 (w.heap.size ≤ gb590) := ⟨h4_⟩
      have n5_ : Aside0 (gb576 ≠ gb590) := ⟨h5_⟩
      have n6_ : Aside0 (gb590 ≠ gb576) := ⟨h6_⟩
      have n7_ : Aside0 (gb577 ≠ gb590) := ⟨h7_⟩
      have n8_ : Aside0 (gb590 ≠ gb577) := ⟨h8_⟩
      have n9_ : Aside0 (Below w.heap.size w w49) := ⟨h9_⟩
      clear BK576
      clear BK577
      clear HB
      clear h0_ h1_ h2_ h3_ h4_ h5_ h6_ h7_ h8_ h9_
      have BK576 := n0_
      have BK577 := n1_
      have BK590 := n2_
      have GW590 := n3_
      have GE590 := n4_
      have NB576_590 := n5_
      have NB590_576 := n6_
      have NB577_590 := n7_
      have NB590_577 := n8_
      have HB := n9_
      clear n0_ n1_ n2_ n3_ n4_ n5_ n6_ n7_ n8_ n9_
      have hHeld : w49.cell? ⟨gb576, 0, none⟩ = some (.int .i64 a0_0) ∧ w49.cell? ⟨gb576, 1, none⟩ = some (.int .i64 a0_1) ∧ w49.cell? ⟨gb577, 0, none⟩ = some (.int .i64 a1_0) ∧ w49.cell? ⟨gb577, 1, none⟩ = some (.int .i64 a1_1) := hS_
      refine norm_ (a' := ?_) ?_ ?_
      rotate_left
      ·simp only [putAll, Act.put, sA, sZ, sS]
       rfl
      refine one_ (i := 10) (N := some 16) #[true, true, true, true, true, true, true, true, true, true, true, false, true, false] rfl rfl (one_of HT_.out (by kernel_rfl)) (by decide) (fun K hK => ?_)
      refine goes_ Try.func75 (by kernel_rfl) rfl #[.agg #[.int .u64 t581, .int .u64 t582, .bool t583]] (by rfl) rfl rfl (by (try simp only [List.map_toArray, List.map_cons, List.map_nil]); first | done | rfl | (simp only [List.length_drop, List.length_take]; rfl)) ?_
      with_reducible refine (gangsawref04_minus.calls t581 t582 t583 t584 t585 t586 _ A5.out).mono ?_
      rintro e w50 ⟨rfl, hb⟩
      refine ⟨_, rfl, ?_⟩
      have n0_ := aK (zB (g := gb576) (o := .cells #[.int .i64 a0_0, .int .i64 a0_1] 33 (0, 0)) (BK576.out) hb)
      have n1_ := aK (zB (g := gb577) (o := .cells #[.int .i64 a1_0, .int .i64 a1_1] 33 (0, 0)) (BK577.out) hb)
      have n2_ := aK (zB (g := gb590) (o := .cells #[.int .u64 0, .int .u64 0, .bool false] 82 (0, 0)) (BK590.out) hb)
      have n3_ := aK (yT (HB.out) hb)
      clear BK576
      clear BK577
      clear BK590
      clear HB
      have BK576 := n0_
      have BK577 := n1_
      have BK590 := n2_
      have HB := n3_
      clear n0_ n1_ n2_ n3_
      (try clear hb)
      (try clear hb2)
      (try clear hk)
      (try clear hi)
      refine hK.out _ _ ⟨(zC BK576.out 0).trans rfl, (zC BK576.out 1).trans rfl, (zC BK577.out 0).trans rfl, (zC BK577.out 1).trans rfl⟩ (fun hHeld => ?_)
      clear hK K
      refine norm_ (a' := ?_) ?_ ?_
      rotate_left
      ·show Act.put _ (some 16) _ = _
       simp only [Act.put, sA, sZ, sS, i64_w, i32_w]
       rfl
      exact norm_ (by first | (simp only [putAll, Act.put, sA, sZ, sS]; done) | (simp only [putAll, Act.put, sA, sZ, sS]; rfl)) (hJ4_9_10_12 (gb590) _ ⟨hHeld, (BK576.out), (BK577.out), (BK590.out), GW590.out, GE590.out, NB576_590.out, NB590_576.out, NB577_590.out, NB590_577.out, (HB.out)⟩)
    ·skip
     rintro _ w49 ⟨hS_, h0_, h1_, h2_⟩
     have n0_ : Aside0 (w49.heap[gb576]? = some (.cells #[.int .i64 a0_0, .int .i64 a0_1] 33 (0, 0))) := ⟨h0_⟩
     have n1_ : Aside0 (w49.heap[gb577]? = some (.cells #[.int .i64 a1_0, .int .i64 a1_1] 33 (0, 0))) := ⟨h1_⟩
     have n2_ : Aside0 (Below w.heap.size w w49) := ⟨h2_⟩
     clear BK576
     clear BK577
     clear HB
     clear h0_ h1_ h2_
     have BK576 := n0_
     have BK577 := n1_
     have HB := n2_
     clear n0_ n1_ n2_
     have hHeld : w49.cell? ⟨gb576, 0, none⟩ = some (.int .i64 a0_0) ∧ w49.cell? ⟨gb576, 1, none⟩ = some (.int .i64 a0_1) ∧ w49.cell? ⟨gb577, 0, none⟩ = some (.int .i64 a1_0) ∧ w49.cell? ⟨gb577, 1, none⟩ = some (.int .i64 a1_1) := hS_
     refine norm_ (a' := ?_) ?_ ?_
     rotate_left
     ·simp only [putAll, Act.put, sA, sZ, sS]
      rfl
     refine two_ (i := 11) (j := 12) (Ni := some 17) (Nj := some 5) #[true, true, true, true, true, true, true, true, true, true, true, true, false, false] #[true, true, true, true, true, true, true, true, true, true, true, false, true, false] rfl rfl rfl rfl (two_of HT_.out (by kernel_rfl)) (by decide) (by decide) (fun K hK => ?_) (fun K hK => ?_)
     ·skip
      refine goes_ Try.func73 (by kernel_rfl) rfl #[.agg #[.int .u64 t578, .int .u64 t579, .bool t580], .agg #[.int .u64 t584, .int .u64 t585, .bool t586]] (by rfl) rfl rfl (by (try simp only [List.map_toArray, List.map_cons, List.map_nil]); first | done | rfl | (simp only [List.length_drop, List.length_take]; rfl)) ?_
      with_reducible refine (gangsawref04_plus.calls t578 t579 t580 t584 t585 t586 t587 t588 false _ A6.out).mono ?_
      rintro e w50 ⟨rfl, hb⟩
      refine ⟨_, rfl, ?_⟩
      have n0_ := aK (zB (g := gb576) (o := .cells #[.int .i64 a0_0, .int .i64 a0_1] 33 (0, 0)) (BK576.out) hb)
      have n1_ := aK (zB (g := gb577) (o := .cells #[.int .i64 a1_0, .int .i64 a1_1] 33 (0, 0)) (BK577.out) hb)
      have n2_ := aK (yT (HB.out) hb)
      clear BK576
      clear BK577
      clear HB
      have BK576 := n0_
      have BK577 := n1_
      have HB := n2_
      clear n0_ n1_ n2_
      (try clear hb)
      (try clear hb2)
      (try clear hk)
      (try clear hi)
      refine hK.out _ _ ⟨(zC BK576.out 0).trans rfl, (zC BK576.out 1).trans rfl, (zC BK577.out 0).trans rfl, (zC BK577.out 1).trans rfl⟩ (fun hHeld => ?_)
      clear hK K
      refine norm_ (a' := ?_) ?_ ?_
      rotate_left
      ·show Act.put _ (some 17) _ = _
       simp only [Act.put, sA, sZ, sS, i64_w, i32_w]
       rfl
      exact norm_ (by first | (simp only [putAll, Act.put, sA, sZ, sS]; done) | (simp only [putAll, Act.put, sA, sZ, sS]; rfl)) (hJ4_9_10_11 () _ ⟨hHeld, (BK576.out), (BK577.out), (HB.out)⟩)
     ·skip
      refine box_step ?hg (N := 5) ?hd (cs := #[.int .u64 0, .int .u64 0, .bool false]) (t := 82) ?hr ?_; (case hd => rfl); (case hg => rfl); (case hr => first | (go_simp; done) | (go_simp; rfl))
      intro gb590 hg w50 hbox hb
      have n0_ := aK (zB (g := gb576) (o := .cells #[.int .i64 a0_0, .int .i64 a0_1] 33 (0, 0)) (BK576.out) hb)
      have n1_ := aK (zB (g := gb577) (o := .cells #[.int .i64 a1_0, .int .i64 a1_1] 33 (0, 0)) (BK577.out) hb)
      have n2_ := aK (yT (HB.out) hb)
      have n3_ := aK (hbox)
      have n4_ := aK ((by rw [hg]; exact (yZ (HB.out)) : w.heap.size ≤ gb590))
      have n5_ := aK ((by rw [hg]; exact (yZ (HB.out)) : w.heap.size ≤ gb590))
      have n6_ := aK ((by rw [hg]; exact Nat.ne_of_lt (blk_lt (g := gb576) (o := .cells #[.int .i64 a0_0, .int .i64 a0_1] 33 (0, 0)) (BK576.out)) : gb576 ≠ gb590))
      have n7_ := aK ((by rw [hg]; exact Nat.ne_of_gt (blk_lt (g := gb576) (o := .cells #[.int .i64 a0_0, .int .i64 a0_1] 33 (0, 0)) (BK576.out)) : gb590 ≠ gb576))
      have n8_ := aK ((by rw [hg]; exact Nat.ne_of_lt (blk_lt (g := gb577) (o := .cells #[.int .i64 a1_0, .int .i64 a1_1] 33 (0, 0)) (BK577.out)) : gb577 ≠ gb590))
      have n9_ := aK ((by rw [hg]; exact Nat.ne_of_gt (blk_lt (g := gb577) (o := .cells #[.int .i64 a1_0, .int .i64 a1_1] 33 (0, 0)) (BK577.out)) : gb590 ≠ gb577))
      clear BK576
      clear BK577
      clear HB
      have BK576 := n0_
      have BK577 := n1_
      have HB := n2_
      have BK590 := n3_
      have GW590 := n4_
      have GE590 := n5_
      have NB576_590 := n6_
      have NB590_576 := n7_
      have NB577_590 := n8_
      have NB590_577 := n9_
      clear n0_ n1_ n2_ n3_ n4_ n5_ n6_ n7_ n8_ n9_
      clear hb hbox hg
      refine hK.out _ _ ⟨(zC BK576.out 0).trans rfl, (zC BK576.out 1).trans rfl, (zC BK577.out 0).trans rfl, (zC BK577.out 1).trans rfl⟩ (fun hHeld => ?_)
      clear hK K
      refine norm_ (a' := ?_) ?_ ?_
      rotate_left
      ·show Act.put _ (some 5) _ = _
       simp only [Act.put, sA, sZ, sS, i64_w, i32_w]
       rfl
      exact norm_ (by first | (simp only [putAll, Act.put, sA, sZ, sS]; done) | (simp only [putAll, Act.put, sA, sZ, sS]; rfl)) (hJ4_9_10_12 (gb590) _ ⟨hHeld, (BK576.out), (BK577.out), (BK590.out), GW590.out, GE590.out, NB576_590.out, NB590_576.out, NB577_590.out, NB590_577.out, (HB.out)⟩)
   ·skip
    rintro gb590 w50 ⟨hS_, h0_, h1_, h2_, h3_, h4_, h5_, h6_, h7_, h8_, h9_⟩
    have n0_ : Aside0 (w50.heap[gb576]? = some (.cells #[.int .i64 a0_0, .int .i64 a0_1] 33 (0, 0))) := ⟨h0_⟩
    have n1_ : Aside0 (w50.heap[gb577]? = some (.cells #[.int .i64 a1_0, .int .i64 a1_1] 33 (0, 0))) := ⟨h1_⟩
    have n2_ : Aside0 (w50.heap[gb590]? = some (.cells #[.int .u64 0, .int .u64 0, .bool false] 82 (0, 0))) := ⟨h2_⟩
    have n3_ : Aside0 (w.heap.size ≤ gb590) := ⟨h3_⟩
    have n4_ : Aside0 (w.heap.size ≤ gb590) := ⟨h4_⟩
    have n5_ : Aside0 (gb576 ≠ gb590) := ⟨h5_⟩
    have n6_ : Aside0 (gb590 ≠ gb576) := ⟨h6_⟩
    have n7_ : Aside0 (gb577 ≠ gb590) := ⟨h7_⟩
    have n8_ : Aside0 (gb590 ≠ gb577) := ⟨h8_⟩
    have n9_ : Aside0 (Below w.heap.size w w50) := ⟨h9_⟩
    clear BK576
    clear BK577
    clear HB
    clear h0_ h1_ h2_ h3_ h4_ h5_ h6_ h7_ h8_ h9_
    have BK576 := n0_
    have BK577 := n1_
    have BK590 := n2_
    have GW590 := n3_
    have GE590 := n4_
    have NB576_590 := n5_
    have NB590_576 := n6_
    have NB577_590 := n7_
    have NB590_577 := n8_
    have HB := n9_
    clear n0_ n1_ n2_ n3_ n4_ n5_ n6_ n7_ n8_ n9_
    have hHeld : w50.cell? ⟨gb576, 0, none⟩ = some (.int .i64 a0_0) ∧ w50.cell? ⟨gb576, 1, none⟩ = some (.int .i64 a0_1) ∧ w50.cell? ⟨gb577, 0, none⟩ = some (.int .i64 a1_0) ∧ w50.cell? ⟨gb577, 1, none⟩ = some (.int .i64 a1_1) := hS_
    refine norm_ (a' := ?_) ?_ ?_
    rotate_left
    ·simp only [putAll, Act.put, sA, sZ, sS]
     rfl
    refine one_ (i := 11) (N := some 17) #[true, true, true, true, true, true, true, true, true, true, true, true, true, false] rfl rfl (one_of HT_.out (by kernel_rfl)) (by decide) (fun K hK => ?_)
    refine goes_ Try.func73 (by kernel_rfl) rfl #[.agg #[.int .u64 t578, .int .u64 t579, .bool t580], .agg #[.int .u64 t584, .int .u64 t585, .bool t586]] (by rfl) rfl rfl (by (try simp only [List.map_toArray, List.map_cons, List.map_nil]); first | done | rfl | (simp only [List.length_drop, List.length_take]; rfl)) ?_
    with_reducible refine (gangsawref04_plus.calls t578 t579 t580 t584 t585 t586 t587 t588 false _ A6.out).mono ?_
    rintro e w51 ⟨rfl, hb⟩
    refine ⟨_, rfl, ?_⟩
    have n0_ := aK (zB (g := gb576) (o := .cells #[.int .i64 a0_0, .int .i64 a0_1] 33 (0, 0)) (BK576.out) hb)
    have n1_ := aK (zB (g := gb577) (o := .cells #[.int .i64 a1_0, .int .i64 a1_1] 33 (0, 0)) (BK577.out) hb)
    have n2_ := aK (zB (g := gb590) (o := .cells #[.int .u64 0, .int .u64 0, .bool false] 82 (0, 0)) (BK590.out) hb)
    have n3_ := aK (yT (HB.out) hb)
    clear BK576
    clear BK577
    clear BK590
    clear HB
    have BK576 := n0_
    have BK577 := n1_
    have BK590 := n2_
    have HB := n3_
    clear n0_ n1_ n2_ n3_
    (try clear hb)
    (try clear hb2)
    (try clear hk)
    (try clear hi)
    refine hK.out _ _ ⟨(zC BK576.out 0).trans rfl, (zC BK576.out 1).trans rfl, (zC BK577.out 0).trans rfl, (zC BK577.out 1).trans rfl⟩ (fun hHeld => ?_)
    clear hK K
    refine norm_ (a' := ?_) ?_ ?_
    rotate_left
    ·show Act.put _ (some 17) _ = _
     simp only [Act.put, sA, sZ, sS, i64_w, i32_w]
     rfl
    exact norm_ (by first | (simp only [putAll, Act.put, sA, sZ, sS]; done) | (simp only [putAll, Act.put, sA, sZ, sS]; rfl)) (hJ4_9_10_11_12 (gb590) _ ⟨hHeld, (BK576.out), (BK577.out), (BK590.out), GW590.out, GE590.out, NB576_590.out, NB590_576.out, NB577_590.out, NB590_577.out, (HB.out)⟩)
  ·skip
   rintro _ w50 ⟨hS_, h0_, h1_, h2_⟩
   have n0_ : Aside0 (w50.heap[gb576]? = some (.cells #[.int .i64 a0_0, .int .i64 a0_1] 33 (0, 0))) := ⟨h0_⟩
   have n1_ : Aside0 (w50.heap[gb577]? = some (.cells #[.int .i64 a1_0, .int .i64 a1_1] 33 (0, 0))) := ⟨h1_⟩
   have n2_ : Aside0 (Below w.heap.size w w50) := ⟨h2_⟩
   clear BK576
   clear BK577
   clear HB
   clear h0_ h1_ h2_
   have BK576 := n0_
   have BK577 := n1_
   have HB := n2_
   clear n0_ n1_ n2_
   have hHeld : w50.cell? ⟨gb576, 0, none⟩ = some (.int .i64 a0_0) ∧ w50.cell? ⟨gb576, 1, none⟩ = some (.int .i64 a0_1) ∧ w50.cell? ⟨gb577, 0, none⟩ = some (.int .i64 a1_0) ∧ w50.cell? ⟨gb577, 1, none⟩ = some (.int .i64 a1_1) := hS_
   refine norm_ (a' := ?_) ?_ ?_
   rotate_left
   ·simp only [putAll, Act.put, sA, sZ, sS]
    rfl
   refine one_ (i := 12) (N := some 5) #[true, true, true, true, true, true, true, true, true, true, true, true, true, false] rfl rfl (one_of HT_.out (by kernel_rfl)) (by decide) (fun K hK => ?_)
   refine box_step ?hg (N := 5) ?hd (cs := #[.int .u64 0, .int .u64 0, .bool false]) (t := 82) ?hr ?_; (case hd => rfl); (case hg => rfl); (case hr => first | (go_simp; done) | (go_simp; rfl))
   intro gb590 hg w51 hbox hb
   have n0_ := aK (zB (g := gb576) (o := .cells #[.int .i64 a0_0, .int .i64 a0_1] 33 (0, 0)) (BK576.out) hb)
   have n1_ := aK (zB (g := gb577) (o := .cells #[.int .i64 a1_0, .int .i64 a1_1] 33 (0, 0)) (BK577.out) hb)
   have n2_ := aK (yT (HB.out) hb)
   have n3_ := aK (hbox)
   have n4_ := aK ((by rw [hg]; exact (yZ (HB.out)) : w.heap.size ≤ gb590))
   have n5_ := aK ((by rw [hg]; exact (yZ (HB.out)) : w.heap.size ≤ gb590))
   have n6_ := aK ((by rw [hg]; exact Nat.ne_of_lt (blk_lt (g := gb576) (o := .cells #[.int .i64 a0_0, .int .i64 a0_1] 33 (0, 0)) (BK576.out)) : gb576 ≠ gb590))
   have n7_ := aK ((by rw [hg]; exact Nat.ne_of_gt (blk_lt (g := gb576) (o := .cells #[.int .i64 a0_0, .int .i64 a0_1] 33 (0, 0)) (BK576.out)) : gb590 ≠ gb576))
   have n8_ := aK ((by rw [hg]; exact Nat.ne_of_lt (blk_lt (g := gb577) (o := .cells #[.int .i64 a1_0, .int .i64 a1_1] 33 (0, 0)) (BK577.out)) : gb577 ≠ gb590))
   have n9_ := aK ((by rw [hg]; exact Nat.ne_of_gt (blk_lt (g := gb577) (o := .cells #[.int .i64 a1_0, .int .i64 a1_1] 33 (0, 0)) (BK577.out)) : gb590 ≠ gb577))
   clear BK576
   clear BK577
   clear HB
   have BK576 := n0_
   have BK577 := n1_
   have HB := n2_
   have BK590 := n3_
   have GW590 := n4_
   have GE590 := n5_
   have NB576_590 := n6_
   have NB590_576 := n7_
   have NB577_590 := n8_
   have NB590_577 := n9_
   clear n0_ n1_ n2_ n3_ n4_ n5_ n6_ n7_ n8_ n9_
   clear hb hbox hg
   refine hK.out _ _ ⟨(zC BK576.out 0).trans rfl, (zC BK576.out 1).trans rfl, (zC BK577.out 0).trans rfl, (zC BK577.out 1).trans rfl⟩ (fun hHeld => ?_)
   clear hK K
   refine norm_ (a' := ?_) ?_ ?_
   rotate_left
   ·show Act.put _ (some 5) _ = _
    simp only [Act.put, sA, sZ, sS, i64_w, i32_w]
    rfl
   exact norm_ (by first | (simp only [putAll, Act.put, sA, sZ, sS]; done) | (simp only [putAll, Act.put, sA, sZ, sS]; rfl)) (hJ4_9_10_11_12 (gb590) _ ⟨hHeld, (BK576.out), (BK577.out), (BK590.out), GW590.out, GE590.out, NB576_590.out, NB590_576.out, NB577_590.out, NB590_577.out, (HB.out)⟩)
 rintro gb590 w51 ⟨hS_, h0_, h1_, h2_, h3_, h4_, h5_, h6_, h7_, h8_, h9_⟩
 have n0_ : Aside0 (w51.heap[gb576]? = some (.cells #[.int .i64 a0_0, .int .i64 a0_1] 33 (0, 0))) := ⟨h0_⟩
 have n1_ : Aside0 (w51.heap[gb577]? = some (.cells #[.int .i64 a1_0, .int .i64 a1_1] 33 (0, 0))) := ⟨h1_⟩
 have n2_ : Aside0 (w51.heap[gb590]? = some (.cells #[.int .u64 0, .int .u64 0, .bool false] 82 (0, 0))) := ⟨h2_⟩
 have n3_ : Aside0 (w.heap.size ≤ gb590) := ⟨h3_⟩
 have n4_ : Aside0 (w.heap.size ≤ gb590) := ⟨h4_⟩
 have n5_ : Aside0 (gb576 ≠ gb590) := ⟨h5_⟩
 have n6_ : Aside0 (gb590 ≠ gb576) := ⟨h6_⟩
 have n7_ : Aside0 (gb577 ≠ gb590) := ⟨h7_⟩
 have n8_ : Aside0 (gb590 ≠ gb577) := ⟨h8_⟩
 have n9_ : Aside0 (Below w.heap.size w w51) := ⟨h9_⟩
 clear BK576
 clear BK577
 clear HB
 clear h0_ h1_ h2_ h3_ h4_ h5_ h6_ h7_ h8_ h9_
 have BK576 := n0_
 have BK577 := n1_
 have BK590 := n2_
 have GW590 := n3_
 have GE590 := n4_
 have NB576_590 := n5_
 have NB590_576 := n6_
 have NB577_590 := n7_
 have NB590_577 := n8_
 have HB := n9_
 clear n0_ n1_ n2_ n3_ n4_ n5_ n6_ n7_ n8_ n9_
 have hHeld : w51.cell? ⟨gb576, 0, none⟩ = some (.int .i64 a0_0) ∧ w51.cell? ⟨gb576, 1, none⟩ = some (.int .i64 a0_1) ∧ w51.cell? ⟨gb577, 0, none⟩ = some (.int .i64 a1_0) ∧ w51.cell? ⟨gb577, 1, none⟩ = some (.int .i64 a1_1) := hS_
 refine norm_ (a' := ?_) ?_ ?_
 rotate_left
 ·simp only [putAll, Act.put, sA, sZ, sS]
  rfl
 refine one_ (i := 13) (N := none) #[true, true, true, true, true, true, true, true, true, true, true, true, true, true] rfl rfl (one_of HT_.out (by kernel_rfl)) (by decide) (fun K hK => ?_)
 have hs52 : w51.cell? ⟨gb590, 0, none⟩ = some (.int .u64 0) := (zC BK590.out 0).trans rfl
 have hfs52 := zF BK590.out 0
 have hns52_0 := NB576_590.out
 have hns52_1 := NB577_590.out
 have hms52_0 := NB590_576.out
 have hms52_1 := NB590_577.out
 have hs53 : w51.cell? ⟨gb590, 1, none⟩ = some (.int .u64 0) := (zC BK590.out 1).trans rfl
 have hfs53 := zF BK590.out 1
 have hns53_0 := NB576_590.out
 have hns53_1 := NB577_590.out
 have hms53_0 := NB590_576.out
 have hms53_1 := NB590_577.out
 have hs54 : w51.cell? ⟨gb590, 2, none⟩ = some (.bool false) := (zC BK590.out 2).trans rfl
 have hfs54 := zF BK590.out 2
 have hns54_0 := NB576_590.out
 have hns54_1 := NB577_590.out
 have hms54_0 := NB590_576.out
 have hms54_1 := NB590_577.out
 refine skip_ (w1 := ?_) (by rfl) rfl ?_ ?_
 rotate_left
 ·go_simp
  rfl
 refine hK.out _ _ ⟨((cell_far (p := ⟨gb590, _, none⟩) NB576_590.out _).trans (((cell_far (p := ⟨gb590, _, none⟩) NB576_590.out _).trans (((cell_far (p := ⟨gb590, _, none⟩) NB576_590.out _).trans (hHeld.1)))))), ((cell_far (p := ⟨gb590, _, none⟩) NB576_590.out _).trans (((cell_far (p := ⟨gb590, _, none⟩) NB576_590.out _).trans (((cell_far (p := ⟨gb590, _, none⟩) NB576_590.out _).trans (hHeld.2.1)))))), ((cell_far (p := ⟨gb590, _, none⟩) NB577_590.out _).trans (((cell_far (p := ⟨gb590, _, none⟩) NB577_590.out _).trans (((cell_far (p := ⟨gb590, _, none⟩) NB577_590.out _).trans (hHeld.2.2.1)))))), ((cell_far (p := ⟨gb590, _, none⟩) NB577_590.out _).trans (((cell_far (p := ⟨gb590, _, none⟩) NB577_590.out _).trans (((cell_far (p := ⟨gb590, _, none⟩) NB577_590.out _).trans (hHeld.2.2.2))))))⟩ (fun hHeld => ?_)
 clear hK K
 refine done_ (done_of HT_.out (by kernel_rfl)) ?_
 have hnb55 := NB590_576.out
 have hnc55 := NB576_590.out
 have hnb56 := NB590_577.out
 have hnc56 := NB577_590.out
 have hcz57_0 := zI BK590 0 rfl
 have hcz57_1 := zI BK590 1 rfl
 have hcz57_2 := zI BK590 2 rfl
 have hfz57_0 := zF BK590.out 0
 have hfz57_1 := zF BK590.out 1
 have hfz57_2 := zF BK590.out 2
 try go_wp2_with (first | ((with_reducible refine gate_callee (f := 76) rfl ?_); refine goesL_ (some 20) rfl rfl Try.func76 (by kernel_rfl) rfl #[.agg #[.int .u64 t587, .int .u64 t588, .bool false]] rfl (by (try simp only [List.map_toArray, List.map_cons, List.map_nil]); first | done | rfl | (simp only [List.length_drop, List.length_take]; rfl)) ?_; (with_reducible refine (gangsawref04_wide_zero.calls t587 t588 false false _ A7.out).mono ?_); rintro e w58 ⟨rfl, hb⟩; refine ⟨_, rfl, ?_⟩; have n0_ := aK (zB (g := gb576) (o := .cells #[.int .i64 a0_0, .int .i64 a0_1] 33 (0, 0)) (by refine blk_far ?_ NB576_590.out _; refine blk_far ?_ NB576_590.out _; refine blk_far ?_ NB576_590.out _; exact BK576.out) hb); have n1_ := aK (zB (g := gb577) (o := .cells #[.int .i64 a1_0, .int .i64 a1_1] 33 (0, 0)) (by refine blk_far ?_ NB577_590.out _; refine blk_far ?_ NB577_590.out _; refine blk_far ?_ NB577_590.out _; exact BK577.out) hb); have n2_ := aK (zB (g := gb590) (o := .cells #[.int .u64 t587, .int .u64 t588, .bool false] 82 (0, 0)) (by refine blk_put (cs := #[.int .u64 t587, .int .u64 t588, .bool false]) ?_ 2 _ rfl; refine blk_put (cs := #[.int .u64 t587, .int .u64 0, .bool false]) ?_ 1 _ rfl; refine blk_put (cs := #[.int .u64 0, .int .u64 0, .bool false]) ?_ 0 _ rfl; exact BK590.out) hb); have n3_ := aK (yT (by repeat (first | (with_reducible first | exact HB.out | apply yA | apply yN | apply yD | refine yS ?_ GE576.out | refine yS ?_ GE577.out | refine yS ?_ GE590.out) | exact HB.out)) hb); clear BK576; clear BK577; clear BK590; clear HB; have BK576 := n0_; have BK577 := n1_; have BK590 := n2_; have HB := n3_; clear n0_ n1_ n2_ n3_; (try clear hb); have hcz59_0 := zI BK590 0 rfl; have hcz59_1 := zI BK590 1 rfl; have hcz59_2 := zI BK590 2 rfl; have hfz59_0 := zF BK590.out 0; have hfz59_1 := zF BK590.out 1; have hfz59_2 := zF BK590.out 2))
 go_ret
 exact ⟨rfl, HB.out⟩

end Go.Proofs.Ythkpgjjakdbbfaa.P
