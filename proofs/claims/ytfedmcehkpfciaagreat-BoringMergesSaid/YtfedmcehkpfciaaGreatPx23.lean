/- What functions of the program return: each contract says so of one function, for every input at which its pure function yields. -/
import Derived.Test.YtfedmcehkpfciaaGreatPx0
namespace Go.Proofs.YtfedmcehkpfciaaGreat.P
open Go.RowKit Go.Proofs.YtfedmcehkpfciaaGreatW.PrintWords Go.Proofs.YtfedmcehkpfciaaGreatW.PrintLast Go.Proofs.YtfedmcehkpfciaaGreatW.PrintMore
attribute [local go_sem] max2_int min2_int max_two min_two max_three min_three max_four min_four   -- for this text's walks alone
set_option linter.unusedVariables false
set_option linter.unusedSimpArgs false

mutual
def gangsawref14_ends.l0 : Nat → List Int → List (S48) → Int → Option (List Int)
 | 0, _, _, _ => none
 | k + 1, x5, x6, x7 => if x7 < (x6.length : Int) then (if 0 ≤ x7 then ((some (([(rd_T48 x6 x7).f0, (rd_T48 x6 x7).f1] : List Int) : List Int)).bind fun y304 => (if x5.length + y304.length < 17592186044416 then (gangsawref14_ends.l0 k (x5 ++ y304) x6 (wrap64 (x7 + 1))) else (none))) else (none)) else (gangsawref14_ends.l1 k x5 0)
def gangsawref14_ends.l1 : Nat → List Int → Int → Option (List Int)
 | 0, _, _ => none
 | k + 1, x5, x8 => if x8 < (x5.length : Int) then (gangsawref14_ends.l2 k x5 x8 x8) else (some x5)
def gangsawref14_ends.l2 : Nat → List Int → Int → Int → Option (List Int)
 | 0, _, _, _ => none
 | k + 1, x5, x8, x9 => if x9 > 0 then (if 0 ≤ x9 then (if x9 < (x5.length : Int) then (if 0 ≤ (wrap64 (x9 - 1)) then (if (wrap64 (x9 - 1)) < (x5.length : Int) then (if (rd x5 x9) < (rd x5 (wrap64 (x9 - 1))) then (gangsawref14_ends.l2 k ((x5.set (x9 : Int).toNat (rd x5 (wrap64 (x9 - 1)))).set ((wrap64 (x9 - 1)) : Int).toNat (rd x5 x9)) x8 (wrap64 (x9 - 1))) else (gangsawref14_ends.l1 k x5 (wrap64 (x8 + 1)))) else (none)) else (none)) else (none)) else (none)) else (gangsawref14_ends.l1 k x5 (wrap64 (x8 + 1)))
end
def gangsawref14_ends.f (k : Nat) (a0_0 : ByteArray) (a0_1 : Int) (a0_2 : Int) (l0_3 : List (S48)) (a1_0 : ByteArray) (a1_1 : Int) (a1_2 : Int) (l1_3 : List (S48)) : Option (List Int) := (some (([] : List (S48)) : List (S48))).bind fun y293 => (if y293.length + l0_3.length < 5864062014805 then ((some (y293 ++ l0_3 : List (S48))).bind fun y296 => (if y296.length + l1_3.length < 5864062014805 then (gangsawref14_ends.l0 k ([] : List Int) (y296 ++ l1_3) 0) else (none))) else (none))
theorem gangsawref14_ends.mono_l : ∀ k, (∀ y0 y1 y2, LeO (gangsawref14_ends.l0 k y0 y1 y2) (gangsawref14_ends.l0 (k + 1) y0 y1 y2)) ∧ (∀ y0 y1, LeO (gangsawref14_ends.l1 k y0 y1) (gangsawref14_ends.l1 (k + 1) y0 y1)) ∧ (∀ y0 y1 y2, LeO (gangsawref14_ends.l2 k y0 y1 y2) (gangsawref14_ends.l2 (k + 1) y0 y1 y2))
 | 0 => ⟨fun _ _ _ r h => by simp [gangsawref14_ends.l0] at h, fun _ _ r h => by simp [gangsawref14_ends.l1] at h, fun _ _ _ r h => by simp [gangsawref14_ends.l2] at h⟩
 | k + 1 => by
  obtain ⟨ih0, ih1, ih2⟩ := gangsawref14_ends.mono_l k
  refine ⟨?_, ?_, ?_⟩
  ·intro y0 y1 y2
   unfold gangsawref14_ends.l0
   repeat' first
   | (with_reducible exact ih0 _ _ _)
   | (with_reducible exact ih1 _ _)
   | (with_reducible exact ih2 _ _ _)
   | (with_reducible exact LeO.refl _)
   | (with_reducible exact LeO.none _)
   | (with_reducible refine LeO.ite ?_ ?_)
   | (with_reducible refine LeO.bind ?_ (fun _ => ?_))
   | exact ih0 _ _ _
   | exact ih1 _ _
   | exact ih2 _ _ _
   | exact LeO.none _
   | refine LeO.ite ?_ ?_
   | refine LeO.bind ?_ (fun _ => ?_)
  ·intro y0 y1
   unfold gangsawref14_ends.l1
   repeat' first
   | (with_reducible exact ih0 _ _ _)
   | (with_reducible exact ih1 _ _)
   | (with_reducible exact ih2 _ _ _)
   | (with_reducible exact LeO.refl _)
   | (with_reducible exact LeO.none _)
   | (with_reducible refine LeO.ite ?_ ?_)
   | (with_reducible refine LeO.bind ?_ (fun _ => ?_))
   | exact ih0 _ _ _
   | exact ih1 _ _
   | exact ih2 _ _ _
   | exact LeO.none _
   | refine LeO.ite ?_ ?_
   | refine LeO.bind ?_ (fun _ => ?_)
  ·intro y0 y1 y2
   unfold gangsawref14_ends.l2
   repeat' first
   | (with_reducible exact ih0 _ _ _)
   | (with_reducible exact ih1 _ _)
   | (with_reducible exact ih2 _ _ _)
   | (with_reducible exact LeO.refl _)
   | (with_reducible exact LeO.none _)
   | (with_reducible refine LeO.ite ?_ ?_)
   | (with_reducible refine LeO.bind ?_ (fun _ => ?_))
   | exact ih0 _ _ _
   | exact ih1 _ _
   | exact ih2 _ _ _
   | exact LeO.none _
   | refine LeO.ite ?_ ?_
   | refine LeO.bind ?_ (fun _ => ?_)
theorem gangsawref14_ends.mono : ∀ a0 a1 a2 a3 a4 a5 a6 a7 k, LeO (gangsawref14_ends.f k a0 a1 a2 a3 a4 a5 a6 a7) (gangsawref14_ends.f (k + 1) a0 a1 a2 a3 a4 a5 a6 a7) := by
 intro a0 a1 a2 a3 a4 a5 a6 a7 k
 obtain ⟨ih0, ih1, ih2⟩ := gangsawref14_ends.mono_l k
 unfold gangsawref14_ends.f
 repeat' first
   | (with_reducible exact ih0 _ _ _)
   | (with_reducible exact ih1 _ _)
   | (with_reducible exact ih2 _ _ _)
   | (with_reducible exact LeO.refl _)
   | (with_reducible exact LeO.none _)
   | (with_reducible refine LeO.ite ?_ ?_)
   | (with_reducible refine LeO.bind ?_ (fun _ => ?_))
   | exact ih0 _ _ _
   | exact ih1 _ _
   | exact ih2 _ _ _
   | exact LeO.none _
   | refine LeO.ite ?_ ?_
   | refine LeO.bind ?_ (fun _ => ?_)
def gangsawref14_ends.T2 : Bool × List (List Nat × List Nat) := (true, [([], []), ([], []), ([1], [1]), ([0, 2], [0, 2]), ([], []), ([4], [4]), ([3, 5, 3], [3, 5]), ([6, 6, 0, 1, 2, 3, 4, 5, 6], [6])])
def gangsawref14_ends.B2 : List Nat := [0, 0, 2, 7, 0, 16, 63, 127]
theorem gangsawref14_ends.tab2 : rtab .any (opsOf Tryz.f59 2) = gangsawref14_ends.T2 := by kernel_rfl
theorem gangsawref14_ends.bits2 : waitsOk gangsawref14_ends.T2.2 gangsawref14_ends.B2 = true := by kernel_rfl
def gangsawref14_ends.T6 : Bool × List (List Nat × List Nat) := (true, [([], []), ([], []), ([], []), ([1, 2], [1, 2]), ([3], [3]), ([4], [4]), ([], []), ([], []), ([6, 7], [6, 7]), ([8], [8]), ([9], [9]), ([5, 10], [5, 10]), ([0, 11], [0, 11]), ([12, 12, 0, 1, 2, 3, 4, 5, 6, 7, 8, 9, 10, 11, 12], [0, 12])])
def gangsawref14_ends.B6 : List Nat := [0, 0, 0, 6, 14, 30, 0, 0, 192, 448, 960, 2046, 4095, 8191]
theorem gangsawref14_ends.tab6 : rtab .any (opsOf Tryz.f59 6) = gangsawref14_ends.T6 := by kernel_rfl
theorem gangsawref14_ends.bits6 : waitsOk gangsawref14_ends.T6.2 gangsawref14_ends.B6 = true := by kernel_rfl
def gangsawref14_ends.T11 : Bool × List (List Nat × List Nat) := (true, [([], []), ([0], [0]), ([1], [1]), ([2], [2]), ([2], [2]), ([3, 4, 2], [2, 3, 4]), ([5, 2], [2, 5]), ([2], [2]), ([2], [2]), ([8, 2], [2, 8]), ([7, 9, 2], [2, 7, 9]), ([10, 2], [2, 10]), ([6, 11, 2], [2, 6, 11]), ([2, 12], [2, 12])])
def gangsawref14_ends.B11 : List Nat := [0, 1, 3, 7, 7, 31, 63, 7, 7, 263, 903, 1927, 4095, 8191]
theorem gangsawref14_ends.tab11 : rtab .any (opsOf Tryz.f59 11) = gangsawref14_ends.T11 := by kernel_rfl
theorem gangsawref14_ends.bits11 : waitsOk gangsawref14_ends.T11.2 gangsawref14_ends.B11 = true := by kernel_rfl
def gangsawref14_ends.T13 : Bool × List (List Nat × List Nat) := (true, [([], []), ([], []), ([], []), ([], []), ([3], [3]), ([], []), ([], []), ([6], [6]), ([5, 7], [5, 7]), ([8], [8]), ([], []), ([], []), ([10, 11], [10, 11]), ([12], [12]), ([0, 1, 0, 1, 5, 6, 7, 8, 9, 13], [0, 1]), ([14, 9, 0, 1, 5, 6, 7, 8, 9, 13], [9, 14]), ([2, 4, 0, 1, 2, 3, 4, 5, 6, 7, 8, 9, 10, 11, 12, 13, 14, 15], [2, 4]), ([16, 13, 15, 0, 1, 2, 3, 4, 5, 6, 7, 8, 9, 10, 11, 12, 13, 14, 15], [13, 16])])
def gangsawref14_ends.B13 : List Nat := [0, 0, 0, 0, 8, 0, 0, 64, 224, 480, 0, 0, 3072, 7168, 16355, 32739, 65535, 131071]
theorem gangsawref14_ends.tab13 : rtab .any (opsOf Tryz.f59 13) = gangsawref14_ends.T13 := by kernel_rfl
theorem gangsawref14_ends.bits13 : waitsOk gangsawref14_ends.T13.2 gangsawref14_ends.B13 = true := by kernel_rfl
set_option maxHeartbeats 8000000 in
set_option maxRecDepth 100000 in
theorem gangsawref14_ends.calls (k : Nat) (a0_0 : ByteArray) (a0_1 : Int) (a0_2 : Int) (A0_3 : Option Addr) (c0_3 : Nat) (l0_3 : List (S48)) (a1_0 : ByteArray) (a1_1 : Int) (a1_2 : Int) (A1_3 : Option Addr) (c1_3 : Nat) (l1_3 : List (S48)) (r : List Int) (w : World) (hr0_3 : Kd.C k48 w A0_3 l0_3.length l0_3) (hc0_3 : l0_3.length ≤ c0_3) (hr1_3 : Kd.C k48 w A1_3 l1_3.length l1_3) (hc1_3 : l1_3.length ≤ c1_3) (h : gangsawref14_ends.f k a0_0 a0_1 a0_2 l0_3 a1_0 a1_1 a1_2 l1_3 = some r) :
  Calls Tryz.prog 59 #[.agg #[.string a0_0, .int .i64 a0_1, .int .i64 a0_2, .slice A0_3 l0_3.length c0_3], .agg #[.string a1_0, .int .i64 a1_1, .int .i64 a1_2, .slice A1_3 l1_3.length c1_3]] w fun e w' => ∃ v0_ : Value, e = .returned (v0_) ∧ Kd.R (Kd.int .i64) 3 w' w.heap.size (fun _ => True) v0_ r ∧ Below w.heap.size w w' := by
 have hu33 := Tryz.underlying33
 have HR0_3 := aK hr0_3
 have HC0_3 := aK hc0_3
 clear hr0_3 hc0_3
 have HR1_3 := aK hr1_3
 have HC1_3 := aK hc1_3
 clear hr1_3 hc1_3
 have HB := aK (Below.refl w.heap.size w)
 have H : ((some (([] : List (S48)) : List (S48))).bind fun y293 => (if y293.length + l0_3.length < 5864062014805 then ((some (y293 ++ l0_3 : List (S48))).bind fun y296 => (if y296.length + l1_3.length < 5864062014805 then (gangsawref14_ends.l0 k ([] : List Int) (y296 ++ l1_3) 0) else (none))) else (none))) = some r := h
 clear h
 obtain ⟨y293, hy293⟩ : ∃ y_ : List (S48), y_ = (([] : List (S48))) := ⟨_, rfl⟩
 replace H : (if y293.length + l0_3.length < 5864062014805 then ((some (y293 ++ l0_3 : List (S48))).bind fun y296 => (if y296.length + l1_3.length < 5864062014805 then (gangsawref14_ends.l0 k ([] : List Int) (y296 ++ l1_3) 0) else (none))) else (none)) = some r := by first | (rw [hy293]; with_reducible exact H) | (have H2_ := (Option.bind_some _ _).symm.trans H; rw [hy293]; with_reducible exact H2_) | (have H2_ := (Option.bind_some _ _).symm.trans H; with_reducible exact H2_) | with_reducible exact H | (rw [hy293]; exact H) | exact H
 have Ny293 := aK hy293
 clear hy293
 by_cases c3 : y293.length + l0_3.length < 5864062014805
 rotate_left
 ·rw [if_neg c3] at H
  exact absurd H (by simp)
 rw [if_pos c3] at H
 have LMc3 := aK c3
 clear c3
 obtain ⟨y296, hy296⟩ : ∃ y_ : List (S48), y_ = (y293 ++ l0_3) := ⟨_, rfl⟩
 replace H : (if y296.length + l1_3.length < 5864062014805 then (gangsawref14_ends.l0 k ([] : List Int) (y296 ++ l1_3) 0) else (none)) = some r := by first | (rw [hy296]; with_reducible exact H) | (have H2_ := (Option.bind_some _ _).symm.trans H; rw [hy296]; with_reducible exact H2_) | (have H2_ := (Option.bind_some _ _).symm.trans H; with_reducible exact H2_) | with_reducible exact H | (rw [hy296]; exact H) | exact H
 have Ny296 := aK hy296
 clear hy296
 by_cases c4 : y296.length + l1_3.length < 5864062014805
 rotate_left
 ·rw [if_neg c4] at H
  exact absurd H (by simp)
 rw [if_pos c4] at H
 have LMc4 := aK c4
 clear c4
 obtain ⟨y299, hy299⟩ : ∃ y_ : List (S48), y_ = (y296 ++ l1_3) := ⟨_, rfl⟩
 replace H : (gangsawref14_ends.l0 k ([] : List Int) y299 0) = some r := by first | (rw [hy299]; with_reducible exact H) | (have H2_ := (Option.bind_some _ _).symm.trans H; rw [hy299]; with_reducible exact H2_) | (have H2_ := (Option.bind_some _ _).symm.trans H; with_reducible exact H2_) | with_reducible exact H | (rw [hy299]; exact H) | exact H
 have Ny299 := aK hy299
 clear hy299
 have H' := aK H
 clear H
 go_enter Tryz.func59, Tryz.ntmps59
 try go_wp2_with (first | ((with_reducible refine gate_dst (N := 2) rfl ?_); refine box_event ?hg (N := 2) ?hd (cs := #[.string a0_0, .int .i64 a0_1, .int .i64 a0_2, .slice A0_3 l0_3.length c0_3]) (t := 33) ?hr ?_; (case hd => rfl); (case hg => rfl); (case hr => first | (go_simp; done) | (go_simp; rfl)); intro gb291 hg w5 hbox hb; have n0_ := aK (yT (HB.out) hb); have n1_ := aK (hbox); have n2_ := aK ((by rw [hg]; exact (yZ (HB.out)) : w.heap.size ≤ gb291)); have n3_ := n2_; clear HB; have HB := n0_; have BK291 := n1_; have GW291 := n2_; have GE291 := n3_; clear n0_ n1_ n2_ n3_; clear hb hbox hg) | ((with_reducible refine gate_dst (N := 3) rfl ?_); refine box_event ?hg (N := 3) ?hd (cs := #[.string a1_0, .int .i64 a1_1, .int .i64 a1_2, .slice A1_3 l1_3.length c1_3]) (t := 33) ?hr ?_; (case hd => rfl); (case hg => rfl); (case hr => first | (go_simp; done) | (go_simp; rfl)); intro gb292 hg w6 hbox hb; have n0_ := aK (zB (g := gb291) (o := .cells #[.string a0_0, .int .i64 a0_1, .int .i64 a0_2, .slice A0_3 l0_3.length c0_3] 33 (0, 0)) (BK291.out) hb); have n1_ := aK (yT (HB.out) hb); have n2_ := aK (hbox); have n3_ := aK ((by rw [hg]; exact (yZ (HB.out)) : w.heap.size ≤ gb292)); have n4_ := n3_; have n5_ := aK ((by rw [hg]; exact Nat.ne_of_lt (blk_lt (g := gb291) (o := .cells #[.string a0_0, .int .i64 a0_1, .int .i64 a0_2, .slice A0_3 l0_3.length c0_3] 33 (0, 0)) (BK291.out)) : gb291 ≠ gb292)); have n6_ := aK ((by rw [hg]; exact Nat.ne_of_gt (blk_lt (g := gb291) (o := .cells #[.string a0_0, .int .i64 a0_1, .int .i64 a0_2, .slice A0_3 l0_3.length c0_3] 33 (0, 0)) (BK291.out)) : gb292 ≠ gb291)); clear BK291; clear HB; have BK291 := n0_; have HB := n1_; have BK292 := n2_; have GW292 := n3_; have GE292 := n4_; have NB291_292 := n5_; have NB292_291 := n6_; clear n0_ n1_ n2_ n3_ n4_ n5_ n6_; clear hb hbox hg))
 have n0_ := aK (zD BK291.out)
 have n1_ := aK (zD BK292.out)
 have n2_ := aK (yD HB.out)
 clear BK291
 clear BK292
 clear HB
 have BK291 := n0_
 have BK292 := n1_
 have HB := n2_
 clear n0_ n1_ n2_
 refine start_ (n := 8) (S := fun w' => w'.cell? ⟨gb291, 0, none⟩ = some (.string a0_0) ∧ w'.cell? ⟨gb291, 1, none⟩ = some (.int .i64 a0_1) ∧ w'.cell? ⟨gb291, 2, none⟩ = some (.int .i64 a0_2) ∧ w'.cell? ⟨gb291, 3, none⟩ = some (.slice A0_3 l0_3.length c0_3) ∧ w'.cell? ⟨gb292, 0, none⟩ = some (.string a1_0) ∧ w'.cell? ⟨gb292, 1, none⟩ = some (.int .i64 a1_1) ∧ w'.cell? ⟨gb292, 2, none⟩ = some (.int .i64 a1_2) ∧ w'.cell? ⟨gb292, 3, none⟩ = some (.slice A1_3 l1_3.length c1_3)) (ds := []) #[false, false, false, false, false, false, false, false] (by kernel_rfl) rfl rfl ⟨(zC BK291.out 0).trans rfl, (zC BK291.out 1).trans rfl, (zC BK291.out 2).trans rfl, (zC BK291.out 3).trans rfl, (zC BK292.out 0).trans rfl, (zC BK292.out 1).trans rfl, (zC BK292.out 2).trans rfl, (zC BK292.out 3).trans rfl⟩ (fun hHeld => ?_); refine with_tabW gangsawref14_ends.tab2 gangsawref14_ends.bits2 (fun HT_ HW_ => ?_)
 generalize w6.drew = w7 at BK291 BK292 HB hHeld ⊢
 refine pure_ (i := 1) (N := some 11) (v := ?_) (a' := ?_) #[false, true, false, false, false, false, false, false] rfl rfl (any_of HT_.out (by kernel_rfl)) (fun _ _ _ h => h) (Or.inl ⟨by rfl, ?_⟩) ?_ ?_
 rotate_left
 ·intro w'
  go_simp
  with_reducible rfl
 rotate_left
 ·simp only [Act.put, sA, sZ, sS, i64_w, i32_w]
  rfl
 refine pure_ (i := 4) (N := some 14) (v := ?_) (a' := ?_) #[false, true, false, false, true, false, false, false] rfl rfl (any_of HT_.out (by kernel_rfl)) (fun _ _ _ h => h) (Or.inl ⟨by rfl, ?_⟩) ?_ ?_
 rotate_left
 ·intro w'
  go_simp
  with_reducible rfl
 rotate_left
 ·simp only [Act.put, sA, sZ, sS, i64_w, i32_w]
  rfl
 refine take_ (i := 2) (N := some 12) (v := ?_) (a' := ?_) #[false, true, true, false, true, false, false, false] rfl rfl (take_ofW HT_.out HW_.out (by kernel_rfl)) (fun _ _ _ h => h) (Or.inl ⟨by rfl, ?_⟩) hHeld ?_ ?_
 rotate_left
 ·rintro w' ⟨s0, s1, s2, s3, s4, s5, s6, s7⟩
  go_simp
  with_reducible rfl
 rotate_left
 ·simp only [Act.put, sA, sZ, sS, i64_w, i32_w]
  rfl
 refine take_ (i := 5) (N := some 15) (v := ?_) (a' := ?_) #[false, true, true, false, true, true, false, false] rfl rfl (take_ofW HT_.out HW_.out (by kernel_rfl)) (fun _ _ _ h => h) (Or.inl ⟨by rfl, ?_⟩) hHeld ?_ ?_
 rotate_left
 ·rintro w' ⟨s0, s1, s2, s3, s4, s5, s6, s7⟩
  go_simp
  with_reducible rfl
 rotate_left
 ·simp only [Act.put, sA, sZ, sS, i64_w, i32_w]
  rfl
 refine one_ (i := 0) (N := some 10) #[true, true, true, false, true, true, false, false] rfl rfl (one_of HT_.out (by kernel_rfl)) (by decide) (fun K hK => ?_)
 refine Kd.R_lit_step k48 _ 48 ?hg (N := 10) ?hd (xs := ([] : List (S48))) (inner := []) (ok := fun _ => True) (okp := fun _ => True) ?hr ?hp (fun _ hk => hk) trivial (Below.refl _ _) (Nat.le_refl _) (by simp) ?_; (case hd => rfl); (case hg => rfl); (case hr => first | (go_simp; done) | (go_simp; rfl)); (case hp => exact (Reps.none _ _))
 intro v294 w8 ho9 hb hg_ hnew_
 clear hg_ hnew_
 (first | rw [← Ny293.out] at ho9 | (simp only [Int.reduceToNat] at ho9; rw [← Ny293.out] at ho9))
 have n0_ := aK (Kd.R_lower ho9 (yZ (HB.out)))
 have n1_ := aK (zB (g := gb291) (o := .cells #[.string a0_0, .int .i64 a0_1, .int .i64 a0_2, .slice A0_3 l0_3.length c0_3] 33 (0, 0)) (BK291.out) hb)
 have n2_ := aK (zB (g := gb292) (o := .cells #[.string a1_0, .int .i64 a1_1, .int .i64 a1_2, .slice A1_3 l1_3.length c1_3] 33 (0, 0)) (BK292.out) hb)
 have n3_ := aK (yT (HB.out) hb)
 clear BK291
 clear BK292
 clear HB
 have HO295 := n0_
 have BK291 := n1_
 have BK292 := n2_
 have HB := n3_
 clear n0_ n1_ n2_ n3_
 clear hb ho9
 refine hK.out _ _ ⟨(zC BK291.out 0).trans rfl, (zC BK291.out 1).trans rfl, (zC BK291.out 2).trans rfl, (zC BK291.out 3).trans rfl, (zC BK292.out 0).trans rfl, (zC BK292.out 1).trans rfl, (zC BK292.out 2).trans rfl, (zC BK292.out 3).trans rfl⟩ (fun hHeld => ?_)
 clear hK K
 refine norm_ (a' := ?_) ?_ ?_
 rotate_left
 ·show Act.put _ (some 10) _ = _
  simp only [Act.put, sA, sZ, sS, i64_w, i32_w]
  rfl
 refine one_ (i := 3) (N := some 13) #[true, true, true, true, true, true, false, false] rfl rfl (one_of HT_.out (by kernel_rfl)) (by decide) (fun K hK => ?_)
 refine Kd.R_append_rows_step k48 (w0 := w) w.heap.size (by rfl) (.tmp 10) (.tmp 12) 31 48 (.agg #[(.int .i64 0), (.int .i64 0), (.int .i64 0)]) 24 rfl Tryz.underlying31 info48 rfl (by decide) (by omega) v294 y293 l0_3 _ _ _ (fun _ => True) (fun _ => False) rfl rfl ?aO ?aR (fun _ _ h => h) (fun _ h => h.elim) ?aF ?aB ?aS ?aL ?_
 (case aR => repeat (first | exact (Kd.C_below HR0_3.out HB.out) | (with_reducible refine Kd.C_alloc ?_ _) | (with_reducible refine Kd.C_drewN ?_ _) | (with_reducible refine Kd.C_drew ?_)))
 (case aB => exact (HB.out))
 (case aF => exact (fun _ _ => trivial))
 (case aO => exact (HO295.out))
 (case aS => exact (yZ (HB.out)))
 (case aL => have := LMc3.out; omega)
 intro v297 w10 ho hb hg hat
 rw [← Ny296.out] at ho
 have n0_ := aK (blk_grown (g := gb291) (o := .cells #[.string a0_0, .int .i64 a0_1, .int .i64 a0_2, .slice A0_3 l0_3.length c0_3] 33 (0, 0)) (BK291.out) hg (Kd.R_ne HO295.out BK291.out (by decide)))
 have n1_ := aK (blk_grown (g := gb292) (o := .cells #[.string a1_0, .int .i64 a1_1, .int .i64 a1_2, .slice A1_3 l1_3.length c1_3] 33 (0, 0)) (BK292.out) hg (Kd.R_ne HO295.out BK292.out (by decide)))
 have n2_ := aK (hb)
 have n3_ := aK (ho)
 clear BK291
 clear BK292
 clear HB
 clear HO295
 have BK291 := n0_
 have BK292 := n1_
 have HB := n2_
 have HO298 := n3_
 clear n0_ n1_ n2_ n3_
 clear ho hb hg hat
 refine hK.out _ _ ⟨(zC BK291.out 0).trans rfl, (zC BK291.out 1).trans rfl, (zC BK291.out 2).trans rfl, (zC BK291.out 3).trans rfl, (zC BK292.out 0).trans rfl, (zC BK292.out 1).trans rfl, (zC BK292.out 2).trans rfl, (zC BK292.out 3).trans rfl⟩ (fun hHeld => ?_)
 clear hK K
 refine norm_ (a' := ?_) ?_ ?_
 rotate_left
 ·show Act.put _ (some 13) _ = _
  simp only [Act.put, sA, sZ, sS, i64_w, i32_w]
  rfl
 refine one_ (i := 6) (N := some 16) #[true, true, true, true, true, true, true, false] rfl rfl (one_of HT_.out (by kernel_rfl)) (by decide) (fun K hK => ?_)
 refine Kd.R_append_rows_step k48 (w0 := w) w.heap.size (by rfl) (.tmp 13) (.tmp 15) 31 48 (.agg #[(.int .i64 0), (.int .i64 0), (.int .i64 0)]) 24 rfl Tryz.underlying31 info48 rfl (by decide) (by omega) v297 y296 l1_3 _ _ _ (fun _ => True) (fun _ => False) rfl rfl ?aO ?aR (fun _ _ h => h) (fun _ h => h.elim) ?aF ?aB ?aS ?aL ?_
 (case aR => repeat (first | exact (Kd.C_below HR1_3.out HB.out) | (with_reducible refine Kd.C_alloc ?_ _) | (with_reducible refine Kd.C_drewN ?_ _) | (with_reducible refine Kd.C_drew ?_)))
 (case aB => exact (HB.out))
 (case aF => exact (fun _ _ => trivial))
 (case aO => exact (HO298.out))
 (case aS => exact (yZ (HB.out)))
 (case aL => have := LMc4.out; omega)
 intro v300 w11 ho hb hg hat
 rw [← Ny299.out] at ho
 have n0_ := aK (blk_grown (g := gb291) (o := .cells #[.string a0_0, .int .i64 a0_1, .int .i64 a0_2, .slice A0_3 l0_3.length c0_3] 33 (0, 0)) (BK291.out) hg (Kd.R_ne HO298.out BK291.out (by decide)))
 have n1_ := aK (blk_grown (g := gb292) (o := .cells #[.string a1_0, .int .i64 a1_1, .int .i64 a1_2, .slice A1_3 l1_3.length c1_3] 33 (0, 0)) (BK292.out) hg (Kd.R_ne HO298.out BK292.out (by decide)))
 have n2_ := aK (hb)
 have n3_ := aK (ho)
 clear BK291
 clear BK292
 clear HB
 clear HO298
 have BK291 := n0_
 have BK292 := n1_
 have HB := n2_
 have HO301 := n3_
 clear n0_ n1_ n2_ n3_
 clear ho hb hg hat
 refine hK.out _ _ ⟨(zC BK291.out 0).trans rfl, (zC BK291.out 1).trans rfl, (zC BK291.out 2).trans rfl, (zC BK291.out 3).trans rfl, (zC BK292.out 0).trans rfl, (zC BK292.out 1).trans rfl, (zC BK292.out 2).trans rfl, (zC BK292.out 3).trans rfl⟩ (fun hHeld => ?_)
 clear hK K
 refine norm_ (a' := ?_) ?_ ?_
 rotate_left
 ·show Act.put _ (some 16) _ = _
  simp only [Act.put, sA, sZ, sS, i64_w, i32_w]
  rfl
 refine pure_ (i := 7) (N := some 6) (v := ?_) (a' := ?_) #[true, true, true, true, true, true, true, true] rfl rfl (any_of HT_.out (by kernel_rfl)) (fun _ _ _ h => h) (Or.inl ⟨by rfl, ?_⟩) ?_ ?_
 rotate_left
 ·intro w'
  go_simp
  with_reducible rfl
 rotate_left
 ·simp only [Act.put, sA, sZ, sS, i64_w, i32_w]
  rfl
 refine done_ (done_of HT_.out (by kernel_rfl)) ?_
 try go_wp2
 go_loopg [5, 7] k (fun kq v5 v7 w' => ∃ (x5_1 : List Int) (x7_1 : Int), v7 = .int .i64 x7_1 ∧ Aside0 (gangsawref14_ends.l0 kq x5_1 y299 x7_1 = some r) ∧ Aside0 (kq ≤ k) ∧ Aside0 (Kd.R (Kd.int .i64) 3 w' w.heap.size (fun _ => True) v5 x5_1) ∧ Aside0 (Kd.R k48 48 w' w.heap.size (fun _ => True) v300 y299) ∧ Aside0 (w'.heap[gb291]? = some (.cells #[.string a0_0, .int .i64 a0_1, .int .i64 a0_2, (.slice A0_3 l0_3.length c0_3)] 33 (0, 0))) ∧ Aside0 (w'.heap[gb292]? = some (.cells #[.string a1_0, .int .i64 a1_1, .int .i64 a1_2, (.slice A1_3 l1_3.length c1_3)] 33 (0, 0))) ∧ Aside0 (Below w.heap.size w w'))
 case atStart => exact ⟨(([] : List Int)), (0), (by first | rfl | (simp; done) | (simp [*]; done)), H', ⟨Nat.le_refl _⟩, ⟨by first | exact Kd.R_nil _ _ _ _ _ | exact Kd.N_nil _ _ _ _ _ | exact Kd.V_nil _ _ _ _ _ | exact Kd.Q_nil _ _ _ _ _ | exact Kd.S_nil _ _ _ _ _⟩, ⟨HO301.out⟩, ⟨BK291.out⟩, ⟨BK292.out⟩, ⟨HB.out⟩⟩
 case round =>
  clear H'
  try clear c1
  try clear p2
  try clear c3
  try clear c4
  try clear c5
  obtain ⟨x5_1, x7_1, rfl, HA, HK1, HO_5, HO_6, BK291, BK292, HB⟩ := hrel
  cases gk with
  | zero => exact absurd HA.out (by simp [gangsawref14_ends.l0])
  | succ k1 =>
   have H := HA.out
   clear HA
   simp only [gangsawref14_ends.l0] at H
   by_cases c12 : x7_1 < (y299.length : Int)
   ·rw [if_pos c12] at H
    have c12b0 : decide (x7_1 < (y299.length : Int)) = true := decide_eq_true c12
    clear c12
    by_cases c13 : 0 ≤ x7_1
    rotate_left
    ·rw [if_neg c13] at H
     exact absurd H (by simp)
    rw [if_pos c13] at H
    have c13b0 : decide (0 ≤ x7_1) = true := decide_eq_true c13
    clear c13
    obtain ⟨y304, hy304⟩ : ∃ y_ : List Int, y_ = (([(rd_T48 y299 x7_1).f0, (rd_T48 y299 x7_1).f1] : List Int)) := ⟨_, rfl⟩
    replace H : (if x5_1.length + y304.length < 17592186044416 then (gangsawref14_ends.l0 k1 (x5_1 ++ y304) y299 (wrap64 (x7_1 + 1))) else (none)) = some r := by first | (rw [hy304]; with_reducible exact H) | (have H2_ := (Option.bind_some _ _).symm.trans H; rw [hy304]; with_reducible exact H2_) | (have H2_ := (Option.bind_some _ _).symm.trans H; with_reducible exact H2_) | with_reducible exact H | (rw [hy304]; exact H) | exact H
    have Ny304 := aK hy304
    clear hy304
    by_cases c14 : x5_1.length + y304.length < 17592186044416
    rotate_left
    ·rw [if_neg c14] at H
     exact absurd H (by simp)
    rw [if_pos c14] at H
    have LMc14 := aK c14
    clear c14
    obtain ⟨y307, hy307⟩ : ∃ y_ : List Int, y_ = (x5_1 ++ y304) := ⟨_, rfl⟩
    replace H : (gangsawref14_ends.l0 k1 y307 y299 (wrap64 (x7_1 + 1))) = some r := by first | (rw [hy307]; with_reducible exact H) | (have H2_ := (Option.bind_some _ _).symm.trans H; rw [hy307]; with_reducible exact H2_) | (have H2_ := (Option.bind_some _ _).symm.trans H; with_reducible exact H2_) | with_reducible exact H | (rw [hy307]; exact H) | exact H
    have Ny307 := aK hy307
    clear hy307
    have H' := aK H
    clear H
    obtain ⟨Ao15, co15, eo15⟩ := Kd.R_slice HO_6.out
    subst eo15
    try go_wp2
    have n0_ := aK (Kd.R_drew HO_5.out)
    have n1_ := aK (Kd.R_drew HO_6.out)
    have n2_ := aK (zD BK291.out)
    have n3_ := aK (zD BK292.out)
    have n4_ := aK (yD HB.out)
    clear HO_5
    clear HO_6
    clear BK291
    clear BK292
    clear HB
    have HO_5 := n0_
    have HO_6 := n1_
    have BK291 := n2_
    have BK292 := n3_
    have HB := n4_
    clear n0_ n1_ n2_ n3_ n4_
    have p302 : 0 ≤ (x7_1 : Int) := of_decide_eq_true (by assumption)
    have q302 : x7_1 < (y299.length : Int) := of_decide_eq_true (by assumption)
    obtain ⟨ad302, e302, hx302_0, hx302_1, hx302_2⟩ := at_T48 (Kd.R_reads' HO_6.out).2.2 x7_1 p302 q302
    cases e302
    replace p302 := eq_true p302
    replace q302 := eq_true q302
    have p303 : 0 ≤ (x7_1 : Int) := of_decide_eq_true (by assumption)
    have q303 : x7_1 < (y299.length : Int) := of_decide_eq_true (by assumption)
    obtain ⟨ad303, e303, hx303_0, hx303_1, hx303_2⟩ := at_T48 (Kd.R_reads' HO_6.out).2.2 x7_1 p303 q303
    obtain rfl : ad302 = ad303 := (by injection e303)
    replace p303 := eq_true p303
    replace q303 := eq_true q303
    refine start_ (n := 14) (S := fun w' => w'.cell? (ad302.add ((x7_1).toNat * 3)) = some (.int .i64 ((rd_T48 y299 x7_1).f0)) ∧ w'.cell? ⟨(ad302.add ((x7_1).toNat * 3)).block, (ad302.add ((x7_1).toNat * 3)).off + 1, none⟩ = some (.int .i64 ((rd_T48 y299 x7_1).f1)) ∧ w'.cell? ⟨(ad302.add ((x7_1).toNat * 3)).block, (ad302.add ((x7_1).toNat * 3)).off + 2, none⟩ = some (.int .i64 ((rd_T48 y299 x7_1).f2)) ∧ w'.cell? (ad302.add ((x7_1).toNat * 3)) = some (.int .i64 ((rd_T48 y299 x7_1).f0)) ∧ w'.cell? ⟨(ad302.add ((x7_1).toNat * 3)).block, (ad302.add ((x7_1).toNat * 3)).off + 1, none⟩ = some (.int .i64 ((rd_T48 y299 x7_1).f1)) ∧ w'.cell? ⟨(ad302.add ((x7_1).toNat * 3)).block, (ad302.add ((x7_1).toNat * 3)).off + 2, none⟩ = some (.int .i64 ((rd_T48 y299 x7_1).f2))) (ds := [12]) #[false, false, false, false, false, false, false, false, false, false, false, false, false, false] (by kernel_rfl) rfl rfl ⟨hx302_0, hx302_1, hx302_2, hx303_0, hx303_1, hx303_2⟩ (fun hHeld => ?_); refine with_tabW gangsawref14_ends.tab6 gangsawref14_ends.bits6 (fun HT_ HW_ => ?_)
    generalize wr.drew = w16 at HO_5 HO_6 BK291 BK292 HB hx302_0 hx302_1 hx302_2 hx303_0 hx303_1 hx303_2 hHeld ⊢
    refine pure_ (i := 0) (N := some 23) (v := ?_) (a' := ?_) #[true, false, false, false, false, false, false, false, false, false, false, false, false, false] rfl rfl (any_of HT_.out (by kernel_rfl)) (fun _ _ _ h => h) (Or.inl ⟨by rfl, ?_⟩) ?_ ?_
    rotate_left
    ·intro w'
     go_simp
     with_reducible rfl
    rotate_left
    ·simp only [Act.put, sA, sZ, sS, i64_w, i32_w]
     rfl
    refine pure_ (i := 1) (N := some 24) (v := ?_) (a' := ?_) #[true, true, false, false, false, false, false, false, false, false, false, false, false, false] rfl rfl (any_of HT_.out (by kernel_rfl)) (fun _ _ _ h => h) (Or.inl ⟨by rfl, ?_⟩) ?_ ?_
    rotate_left
    ·intro w'
     go_simp
     with_reducible rfl
    rotate_left
    ·simp only [Act.put, sA, sZ, sS, i64_w, i32_w]
     rfl
    refine pure_ (i := 2) (N := some 25) (v := ?_) (a' := ?_) #[true, true, true, false, false, false, false, false, false, false, false, false, false, false] rfl rfl (any_of HT_.out (by kernel_rfl)) (fun _ _ _ h => h) (Or.inl ⟨by rfl, ?_⟩) ?_ ?_
    rotate_left
    ·intro w'
     go_simp
     with_reducible rfl
    rotate_left
    ·simp only [Act.put, sA, sZ, sS, i64_w, i32_w]
     rfl
    refine pure_ (i := 3) (N := some 26) (v := ?_) (a' := ?_) #[true, true, true, true, false, false, false, false, false, false, false, false, false, false] rfl rfl (any_of HT_.out (by kernel_rfl)) (fun _ _ _ h => h) (Or.inl ⟨by rfl, ?_⟩) ?_ ?_
    rotate_left
    ·intro w'
     go_simp
     with_reducible rfl
    rotate_left
    ·simp only [Act.put, sA, sZ, sS, i64_w, i32_w]
     rfl
    refine pure_ (i := 4) (N := some 27) (v := ?_) (a' := ?_) #[true, true, true, true, true, false, false, false, false, false, false, false, false, false] rfl rfl (any_of HT_.out (by kernel_rfl)) (fun _ _ _ h => h) (Or.inl ⟨by rfl, ?_⟩) ?_ ?_
    rotate_left
    ·intro w'
     go_simp
     with_reducible rfl
    rotate_left
    ·simp only [Act.put, sA, sZ, sS, i64_w, i32_w]
     rfl
    refine pure_ (i := 6) (N := some 29) (v := ?_) (a' := ?_) #[true, true, true, true, true, false, true, false, false, false, false, false, false, false] rfl rfl (any_of HT_.out (by kernel_rfl)) (fun _ _ _ h => h) (Or.inl ⟨by rfl, ?_⟩) ?_ ?_
    rotate_left
    ·intro w'
     go_simp
     with_reducible rfl
    rotate_left
    ·simp only [Act.put, sA, sZ, sS, i64_w, i32_w]
     rfl
    refine pure_ (i := 7) (N := some 30) (v := ?_) (a' := ?_) #[true, true, true, true, true, false, true, true, false, false, false, false, false, false] rfl rfl (any_of HT_.out (by kernel_rfl)) (fun _ _ _ h => h) (Or.inl ⟨by rfl, ?_⟩) ?_ ?_
    rotate_left
    ·intro w'
     go_simp
     with_reducible rfl
    rotate_left
    ·simp only [Act.put, sA, sZ, sS, i64_w, i32_w]
     rfl
    refine pure_ (i := 8) (N := some 31) (v := ?_) (a' := ?_) #[true, true, true, true, true, false, true, true, true, false, false, false, false, false] rfl rfl (any_of HT_.out (by kernel_rfl)) (fun _ _ _ h => h) (Or.inl ⟨by rfl, ?_⟩) ?_ ?_
    rotate_left
    ·intro w'
     go_simp
     with_reducible rfl
    rotate_left
    ·simp only [Act.put, sA, sZ, sS, i64_w, i32_w]
     rfl
    refine pure_ (i := 9) (N := some 32) (v := ?_) (a' := ?_) #[true, true, true, true, true, false, true, true, true, true, false, false, false, false] rfl rfl (any_of HT_.out (by kernel_rfl)) (fun _ _ _ h => h) (Or.inl ⟨by rfl, ?_⟩) ?_ ?_
    rotate_left
    ·intro w'
     go_simp
     with_reducible rfl
    rotate_left
    ·simp only [Act.put, sA, sZ, sS, i64_w, i32_w]
     rfl
    refine take_ (i := 5) (N := some 28) (v := ?_) (a' := ?_) #[true, true, true, true, true, true, true, true, true, true, false, false, false, false] rfl rfl (take_ofW HT_.out HW_.out (by kernel_rfl)) (fun _ _ _ h => h) (Or.inl ⟨by rfl, ?_⟩) hHeld ?_ ?_
    rotate_left
    ·rintro w' ⟨s0, s1, s2, s3, s4, s5⟩
     go_simp
     with_reducible rfl
    rotate_left
    ·simp only [Act.put, sA, sZ, sS, i64_w, i32_w]
     rfl
    refine take_ (i := 10) (N := some 33) (v := ?_) (a' := ?_) #[true, true, true, true, true, true, true, true, true, true, true, false, false, false] rfl rfl (take_ofW HT_.out HW_.out (by kernel_rfl)) (fun _ _ _ h => h) (Or.inl ⟨by rfl, ?_⟩) hHeld ?_ ?_
    rotate_left
    ·rintro w' ⟨s0, s1, s2, s3, s4, s5⟩
     go_simp
     with_reducible rfl
    rotate_left
    ·simp only [Act.put, sA, sZ, sS, i64_w, i32_w]
     rfl
    refine one_ (i := 11) (N := some 34) #[true, true, true, true, true, true, true, true, true, true, true, true, false, false] rfl rfl (one_of HT_.out (by kernel_rfl)) (by decide) (fun K hK => ?_)
    refine Kd.R_lit_step (Kd.int .i64) _ 3 ?hg (N := 34) ?hd (xs := ([(rd_T48 y299 x7_1).f0, (rd_T48 y299 x7_1).f1] : List Int)) (inner := [.int .i64 ((rd_T48 y299 x7_1).f0), .int .i64 ((rd_T48 y299 x7_1).f1)]) (ok := fun _ => True) (okp := fun _ => True) ?hr ?hp (fun _ hk => hk) trivial (Below.refl _ _) (Nat.le_refl _) (by simp) ?_; (case hd => rfl); (case hg => rfl); (case hr => first | (go_simp; done) | (go_simp; rfl)); (case hp => exact (Reps.one (show Kd.M (Kd.int .i64) _ _ _ ((rd_T48 y299 x7_1).f0) [.int .i64 ((rd_T48 y299 x7_1).f0)] from rfl) (Reps.one (show Kd.M (Kd.int .i64) _ _ _ ((rd_T48 y299 x7_1).f1) [.int .i64 ((rd_T48 y299 x7_1).f1)] from rfl) (Reps.none _ _))))
    intro v305 w17 ho18 hb hg_ hnew_
    have HS0_ := (hb.cell (World.block_lt_of_cell? _ _ (hHeld.1))).trans (hHeld.1)
    have HS1_ := (hb.cell (World.block_lt_of_cell? _ _ (hHeld.2.1))).trans (hHeld.2.1)
    have HS2_ := (hb.cell (World.block_lt_of_cell? _ _ (hHeld.2.2.1))).trans (hHeld.2.2.1)
    have HS3_ := (hb.cell (World.block_lt_of_cell? _ _ (hHeld.2.2.2.1))).trans (hHeld.2.2.2.1)
    have HS4_ := (hb.cell (World.block_lt_of_cell? _ _ (hHeld.2.2.2.2.1))).trans (hHeld.2.2.2.2.1)
    have HS5_ := (hb.cell (World.block_lt_of_cell? _ _ (hHeld.2.2.2.2.2))).trans (hHeld.2.2.2.2.2)
    clear hg_ hnew_
    (first | rw [← Ny304.out] at ho18 | (simp only [Int.reduceToNat] at ho18; rw [← Ny304.out] at ho18))
    have n0_ := aK (Kd.R_elder' (HO_5.out) (Kd.R_base ho18) hb)
    have n1_ := aK (Kd.R_below (HO_6.out) hb)
    have n2_ := aK (Kd.R_lower (Kd.R_new' ho18 (Kd.R_lt (HO_5.out))) (yZ (HB.out)))
    have n3_ := aK (zB (g := gb291) (o := .cells #[.string a0_0, .int .i64 a0_1, .int .i64 a0_2, .slice A0_3 l0_3.length c0_3] 33 (0, 0)) (BK291.out) hb)
    have n4_ := aK (zB (g := gb292) (o := .cells #[.string a1_0, .int .i64 a1_1, .int .i64 a1_2, .slice A1_3 l1_3.length c1_3] 33 (0, 0)) (BK292.out) hb)
    have n5_ := aK (yT (HB.out) hb)
    clear HO_5
    clear HO_6
    clear BK291
    clear BK292
    clear HB
    have HO_5 := n0_
    have HO_6 := n1_
    have HO306 := n2_
    have BK291 := n3_
    have BK292 := n4_
    have HB := n5_
    clear n0_ n1_ n2_ n3_ n4_ n5_
    clear hb ho18
    obtain ⟨Ao20, co20, eo20⟩ := Kd.R_slice HO306.out
    (first | subst eo20 | (injection eo20 with f1_ f2_ f3_; have f4_ := f1_.symm; have f5_ := f3_.symm; clear f1_ f2_ f3_; subst f4_; subst f5_))
    refine hK.out _ _ ⟨HS0_, HS1_, HS2_, HS3_, HS4_, HS5_⟩ (fun hHeld => ?_)
    clear hK K
    refine norm_ (a' := ?_) ?_ ?_
    rotate_left
    ·show Act.put _ (some 34) _ = _
     simp only [Act.put, sA, sZ, sS, i64_w, i32_w]
     rfl
    refine last_ (i := 12) (N := some 35) #[true, true, true, true, true, true, true, true, true, true, true, true, true, false] rfl rfl (one_of HT_.out (by kernel_rfl)) (by decide) (fun K hK => ?_)
    refine Kd.R_append_rows_step (Kd.int .i64) (w0 := w) w.heap.size (by rfl) (.tmp 23) (.tmp 34) 104 3 (.int .i64 0) 8 rfl Tryz.underlying104 info3 rfl (by decide) (by omega) u5 x5_1 y304 _ _ _ (fun k_ => some k_ ≠ (.slice Ao20 y304.length co20 : Value).ownBlock) (fun _ => False) rfl rfl ?aO ?aR (fun _ _ h => h) (fun _ h => h.elim) ?aF ?aB ?aS ?aL ?_
    (case aR => repeat (first | exact (Kd.R_reads' HO306.out).2.2 | (with_reducible refine Kd.C_alloc ?_ _) | (with_reducible refine Kd.C_drewN ?_ _) | (with_reducible refine Kd.C_drew ?_)))
    (case aB => exact (HB.out))
    (case aF => exact (fun k_ hk => Kd.fresh' (Kd.R_lt (HO306.out)) k_ hk))
    (case aO => exact (by (with_reducible repeat (first | apply Kd.R_alloc | apply Kd.R_drewN | apply Kd.R_drew)); exact Kd.R_mono HO_5.out (fun _ hk => hk.2)))
    (case aS => exact (yZ (HB.out)))
    (case aL => have := LMc14.out; omega)
    intro v308 w19 ho hb hg hat
    rw [← Ny307.out] at ho
    have n0_ := aK (Kd.R_over' (HO_6.out) (Kd.R_typed (HO_5.out)) (by decide) hg)
    have n1_ := aK (blk_grown (g := gb291) (o := .cells #[.string a0_0, .int .i64 a0_1, .int .i64 a0_2, .slice A0_3 l0_3.length c0_3] 33 (0, 0)) (BK291.out) hg (Kd.R_ne HO_5.out BK291.out (by decide)))
    have n2_ := aK (blk_grown (g := gb292) (o := .cells #[.string a1_0, .int .i64 a1_1, .int .i64 a1_2, .slice A1_3 l1_3.length c1_3] 33 (0, 0)) (BK292.out) hg (Kd.R_ne HO_5.out BK292.out (by decide)))
    have n3_ := aK (Kd.R_after (ok := (fun _ => True)) (HO306.out) hg hat)
    have n4_ := aK (hb)
    have n5_ := aK (ho)
    clear HO_6
    clear BK291
    clear BK292
    clear HO306
    clear HB
    clear HO_5
    have HO_6 := n0_
    have BK291 := n1_
    have BK292 := n2_
    have HO306 := n3_
    have HB := n4_
    have HO309 := n5_
    clear n0_ n1_ n2_ n3_ n4_ n5_
    clear ho hb hg hat
    refine hK.out _ _ ?_
    clear hK K
    refine norm_ (a' := ?_) ?_ ?_
    rotate_left
    ·show Act.put _ (some 35) _ = _
     simp only [Act.put, sA, sZ, sS, i64_w, i32_w]
     rfl
    refine pure_ (i := 13) (N := some 5) (v := ?_) (a' := ?_) #[true, true, true, true, true, true, true, true, true, true, true, true, true, true] rfl rfl (any_of HT_.out (by kernel_rfl)) (fun _ _ _ h => h) (Or.inl ⟨by rfl, ?_⟩) ?_ ?_
    rotate_left
    ·intro w'
     go_simp
     with_reducible rfl
    rotate_left
    ·simp only [Act.put, sA, sZ, sS, i64_w, i32_w]
     rfl
    refine done_ (done_of HT_.out (by kernel_rfl)) ?_
    try go_wp2
    go_roundg k1
    case measure => have := HK1.out; omega
    case rel => exact ⟨(y307), (wrap64 (x7_1 + 1)), (by first | rfl | (simp; done) | (simp [*]; done)), H', ⟨by have := HK1.out; omega⟩, ⟨by (with_reducible repeat (first | apply Kd.R_alloc | apply Kd.R_drewN | apply Kd.R_drew)); exact Kd.R_mono HO309.out (fun _ hk => trivial)⟩, ⟨HO_6.out⟩, ⟨BK291.out⟩, ⟨BK292.out⟩, ⟨HB.out⟩⟩
   rw [if_neg c12] at H
   have c12b0 : decide (x7_1 < (y299.length : Int)) = false := decide_eq_false c12
   clear c12
   have H' := aK H
   clear H
   obtain ⟨Ao21, co21, eo21⟩ := Kd.R_slice HO_6.out
   subst eo21
   go_wp2
   go_loopg [8] k1 (fun kq v8 w' => ∃ (x5_2 : List Int) (x8_2 : Int), v8 = .int .i64 x8_2 ∧ Aside0 (gangsawref14_ends.l1 kq x5_2 x8_2 = some r) ∧ Aside0 (kq ≤ k1) ∧ Aside0 (Kd.R (Kd.int .i64) 3 w' w.heap.size (fun _ => True) u5 x5_2) ∧ Aside0 (w'.heap[gb291]? = some (.cells #[.string a0_0, .int .i64 a0_1, .int .i64 a0_2, (.slice A0_3 l0_3.length c0_3)] 33 (0, 0))) ∧ Aside0 (w'.heap[gb292]? = some (.cells #[.string a1_0, .int .i64 a1_1, .int .i64 a1_2, (.slice A1_3 l1_3.length c1_3)] 33 (0, 0))) ∧ Aside0 (Below w.heap.size w w'))
   case atStart => exact ⟨(x5_1), (0), (by first | rfl | (simp; done) | (simp [*]; done)), H', ⟨Nat.le_refl _⟩, ⟨HO_5.out⟩, ⟨BK291.out⟩, ⟨BK292.out⟩, ⟨HB.out⟩⟩
   case round =>
    clear H'
    try clear c1
    try clear p2
    try clear c3
    try clear p3
    try clear q3
    try clear hx3
    try clear c4
    try clear c5
    try clear p6
    try clear c12
    try clear c12b0
    try clear c13
    try clear c13b0
    try clear c14
    try clear hx302_0
    try clear hx302_1
    try clear hx302_2
    try clear hx303_0
    try clear hx303_1
    try clear hx303_2
    try clear p2
    try clear p302
    try clear p303
    try clear q302
    try clear q303
    obtain ⟨x5_2, x8_2, rfl, HA, HK2, HO_5, BK291, BK292, HB⟩ := hrel
    cases gk with
    | zero => exact absurd HA.out (by simp [gangsawref14_ends.l1])
    | succ k2 =>
     have H := HA.out
     clear HA
     simp only [gangsawref14_ends.l1] at H
     by_cases c22 : x8_2 < (x5_2.length : Int)
     rotate_left
     ·rw [if_neg c22] at H
      have c22b0 : decide (x8_2 < (x5_2.length : Int)) = false := decide_eq_false c22
      clear c22
      obtain rfl := Option.some.inj H
      simp only [Option.some.injEq, Prod.mk.injEq] at H
      obtain ⟨rfl⟩ := H
      obtain ⟨Ao39, co39, eo39⟩ := Kd.R_slice HO_5.out
      subst eo39
      go_wp2
      go_ret
      exact ⟨_, rfl, HO_5.out, HB.out⟩
     rw [if_pos c22] at H
     have c22b0 : decide (x8_2 < (x5_2.length : Int)) = true := decide_eq_true c22
     clear c22
     have H' := aK H
     clear H
     obtain ⟨Ao23, co23, eo23⟩ := Kd.R_slice HO_5.out
     subst eo23
     go_wp2
     go_loopg [9] k2 (fun kq v9 w' => ∃ (x5_3 : List Int) (x9_3 : Int), v9 = .int .i64 x9_3 ∧ Aside0 (gangsawref14_ends.l2 kq x5_3 x8_2 x9_3 = some r) ∧ Aside0 (kq ≤ k2) ∧ Aside0 (Kd.R (Kd.int .i64) 3 w' w.heap.size (fun _ => True) (.slice Ao23 x5_2.length co23) x5_3) ∧ Aside0 (w'.heap[gb291]? = some (.cells #[.string a0_0, .int .i64 a0_1, .int .i64 a0_2, (.slice A0_3 l0_3.length c0_3)] 33 (0, 0))) ∧ Aside0 (w'.heap[gb292]? = some (.cells #[.string a1_0, .int .i64 a1_1, .int .i64 a1_2, (.slice A1_3 l1_3.length c1_3)] 33 (0, 0))) ∧ Aside0 (Below w.heap.size w w'))
     case atStart => exact ⟨(x5_2), (x8_2), (by first | rfl | (simp; done) | (simp [*]; done)), H', ⟨Nat.le_refl _⟩, ⟨HO_5.out⟩, ⟨BK291.out⟩, ⟨BK292.out⟩, ⟨HB.out⟩⟩
     case round =>
      clear H'
      try clear c1
      try clear c2
      try clear p2
      try clear c3
      try clear p3
      try clear q3
      try clear hx3
      try clear c4
      try clear c5
      try clear p6
      try clear c12
      try clear c12b0
      try clear c13
      try clear c13b0
      try clear c14
      try clear c22
      try clear c22b0
      try clear hx302_0
      try clear hx302_1
      try clear hx302_2
      try clear hx303_0
      try clear hx303_1
      try clear hx303_2
      try clear p2
      try clear p3
      try clear p302
      try clear p303
      try clear p6
      try clear q3
      try clear q302
      try clear q303
      obtain ⟨x5_3, x9_3, rfl, HA, HK3, HO_5, BK291, BK292, HB⟩ := hrel
      have hl5_3 := (Kd.R_reads' HO_5.out).1
      rw [hl5_3] at HO_5
      (try simp only [hl5_3])
      (try simp only [hl5_3] at BK291)
      (try simp only [hl5_3] at BK292)
      cases gk with
      | zero => exact absurd HA.out (by simp [gangsawref14_ends.l2])
      | succ k3 =>
       have H := HA.out
       clear HA
       simp only [gangsawref14_ends.l2] at H
       by_cases c24 : x9_3 > 0
       rotate_left
       ·rw [if_neg c24] at H
        have c24b0 : decide (0 < x9_3) = false := decide_eq_false c24
        clear c24
        have H' := aK H
        clear H
        try go_wp2
        have n0_ := aK (Kd.R_drew HO_5.out)
        have n1_ := aK (zD BK291.out)
        have n2_ := aK (zD BK292.out)
        have n3_ := aK (yD HB.out)
        clear HO_5
        clear BK291
        clear BK292
        clear HB
        have HO_5 := n0_
        have BK291 := n1_
        have BK292 := n2_
        have HB := n3_
        clear n0_ n1_ n2_ n3_
        refine start_ (n := 14) (S := fun w' => True) (ds := []) #[false, false, false, false, false, false, false, false, false, false, false, false, false, false] (by kernel_rfl) rfl rfl trivial (fun hHeld => ?_); refine with_tabW gangsawref14_ends.tab11 gangsawref14_ends.bits11 (fun HT_ HW_ => ?_)
        generalize wr.drew = w38 at HO_5 BK291 BK292 HB hHeld ⊢
        refine pure_ (i := 0) (N := some 43) (v := ?_) (a' := ?_) #[true, false, false, false, false, false, false, false, false, false, false, false, false, false] rfl rfl (any_of HT_.out (by kernel_rfl)) (fun _ _ _ h => h) (Or.inl ⟨by rfl, ?_⟩) ?_ ?_
        rotate_left
        ·intro w'
         go_simp
         with_reducible rfl
        rotate_left
        ·simp only [Act.put, sA, sZ, sS, i64_w, i32_w]
         rfl
        refine pure_ (i := 1) (N := some 44) (v := ?_) (a' := ?_) #[true, true, false, false, false, false, false, false, false, false, false, false, false, false] rfl rfl (any_of HT_.out (by kernel_rfl)) (fun _ _ _ h => h) (Or.inl ⟨by rfl, ?_⟩) ?_ ?_
        rotate_left
        ·intro w'
         go_simp
         with_reducible rfl
        rotate_left
        ·simp only [Act.put, sA, sZ, sS, i64_w, i32_w]
         rfl
        refine pure_ (i := 2) (N := some 45) (v := ?_) (a' := ?_) #[true, true, true, false, false, false, false, false, false, false, false, false, false, false] rfl rfl (any_of HT_.out (by kernel_rfl)) (fun _ _ _ h => h) (Or.inl ⟨by rfl, ?_⟩) ?_ ?_
        rotate_left
        ·intro w'
         go_simp
         with_reducible rfl
        rotate_left
        ·simp only [Act.put, sA, sZ, sS, i64_w, i32_w]
         rfl
        refine pure_ (i := 3) (N := some 46) (v := undef) (a' := ?_) #[true, true, true, true, false, false, false, false, false, false, false, false, false, false] rfl rfl (any_of HT_.out (by kernel_rfl)) (fun _ _ _ h => h) (Or.inr ⟨by rfl, rfl⟩) ?_ ?_
        rotate_left
        ·simp only [Act.put, sA, sZ, sS, i64_w, i32_w]
         rfl
        refine pure_ (i := 4) (N := some 47) (v := undef) (a' := ?_) #[true, true, true, true, true, false, false, false, false, false, false, false, false, false] rfl rfl (any_of HT_.out (by kernel_rfl)) (fun _ _ _ h => h) (Or.inr ⟨by rfl, rfl⟩) ?_ ?_
        rotate_left
        ·simp only [Act.put, sA, sZ, sS, i64_w, i32_w]
         rfl
        refine pure_ (i := 5) (N := some 48) (v := undef) (a' := ?_) #[true, true, true, true, true, true, false, false, false, false, false, false, false, false] rfl rfl (any_of HT_.out (by kernel_rfl)) (fun _ _ _ h => h) (Or.inr ⟨by rfl, rfl⟩) ?_ ?_
        rotate_left
        ·simp only [Act.put, sA, sZ, sS, i64_w, i32_w]
         rfl
        refine pure_ (i := 6) (N := some 49) (v := undef) (a' := ?_) #[true, true, true, true, true, true, true, false, false, false, false, false, false, false] rfl rfl (any_of HT_.out (by kernel_rfl)) (fun _ _ _ h => h) (Or.inr ⟨by rfl, rfl⟩) ?_ ?_
        rotate_left
        ·simp only [Act.put, sA, sZ, sS, i64_w, i32_w]
         rfl
        refine pure_ (i := 7) (N := some 50) (v := undef) (a' := ?_) #[true, true, true, true, true, true, true, true, false, false, false, false, false, false] rfl rfl (any_of HT_.out (by kernel_rfl)) (fun _ _ _ h => h) (Or.inr ⟨by rfl, rfl⟩) ?_ ?_
        rotate_left
        ·simp only [Act.put, sA, sZ, sS, i64_w, i32_w]
         rfl
        refine pure_ (i := 8) (N := some 51) (v := undef) (a' := ?_) #[true, true, true, true, true, true, true, true, true, false, false, false, false, false] rfl rfl (any_of HT_.out (by kernel_rfl)) (fun _ _ _ h => h) (Or.inr ⟨by rfl, rfl⟩) ?_ ?_
        rotate_left
        ·simp only [Act.put, sA, sZ, sS, i64_w, i32_w]
         rfl
        refine pure_ (i := 9) (N := some 52) (v := undef) (a' := ?_) #[true, true, true, true, true, true, true, true, true, true, false, false, false, false] rfl rfl (any_of HT_.out (by kernel_rfl)) (fun _ _ _ h => h) (Or.inr ⟨by rfl, rfl⟩) ?_ ?_
        rotate_left
        ·simp only [Act.put, sA, sZ, sS, i64_w, i32_w]
         rfl
        refine pure_ (i := 10) (N := some 53) (v := undef) (a' := ?_) #[true, true, true, true, true, true, true, true, true, true, true, false, false, false] rfl rfl (any_of HT_.out (by kernel_rfl)) (fun _ _ _ h => h) (Or.inr ⟨by rfl, rfl⟩) ?_ ?_
        rotate_left
        ·simp only [Act.put, sA, sZ, sS, i64_w, i32_w]
         rfl
        refine pure_ (i := 11) (N := some 54) (v := undef) (a' := ?_) #[true, true, true, true, true, true, true, true, true, true, true, true, false, false] rfl rfl (any_of HT_.out (by kernel_rfl)) (fun _ _ _ h => h) (Or.inr ⟨by rfl, rfl⟩) ?_ ?_
        rotate_left
        ·simp only [Act.put, sA, sZ, sS, i64_w, i32_w]
         rfl
        refine pure_ (i := 12) (N := some 55) (v := undef) (a' := ?_) #[true, true, true, true, true, true, true, true, true, true, true, true, true, false] rfl rfl (any_of HT_.out (by kernel_rfl)) (fun _ _ _ h => h) (Or.inr ⟨by rfl, rfl⟩) ?_ ?_
        rotate_left
        ·simp only [Act.put, sA, sZ, sS, i64_w, i32_w]
         rfl
        refine pure_ (i := 13) (N := some 56) (v := ?_) (a' := ?_) #[true, true, true, true, true, true, true, true, true, true, true, true, true, true] rfl rfl (any_of HT_.out (by kernel_rfl)) (fun _ _ _ h => h) (Or.inl ⟨by rfl, ?_⟩) ?_ ?_
        rotate_left
        ·intro w'
         go_simp
         with_reducible rfl
        rotate_left
        ·simp only [Act.put, sA, sZ, sS, i64_w, i32_w]
         rfl
        refine done_ (done_of HT_.out (by kernel_rfl)) ?_
        try go_wp2
        (try simp only [← hl5_3])
        go_roundg k3
        case measure => have := HK1.out; have := HK2.out; have := HK3.out; omega
        case rel => exact ⟨(x5_3), (wrap64 (x8_2 + 1)), (by first | rfl | (simp; done) | (simp [*]; done)), H', ⟨by have := HK1.out; have := HK2.out; have := HK3.out; omega⟩, ⟨by (try simp only [hl5_3]); (with_reducible repeat (first | apply Kd.R_alloc | apply Kd.R_drewN | apply Kd.R_drew)); exact HO_5.out⟩, ⟨by (try simp only [hl5_3]); exact BK291.out⟩, ⟨by (try simp only [hl5_3]); exact BK292.out⟩, ⟨HB.out⟩⟩
       rw [if_pos c24] at H
       have c24b0 : decide (0 < x9_3) = true := decide_eq_true c24
       clear c24
       by_cases c25 : 0 ≤ x9_3
       rotate_left
       ·rw [if_neg c25] at H
        exact absurd H (by simp)
       rw [if_pos c25] at H
       have c25b0 : decide (0 ≤ x9_3) = true := decide_eq_true c25
       clear c25
       by_cases c26 : x9_3 < (x5_3.length : Int)
       rotate_left
       ·rw [if_neg c26] at H
        exact absurd H (by simp)
       rw [if_pos c26] at H
       have c26b0 : decide (x9_3 < (x5_3.length : Int)) = true := decide_eq_true c26
       clear c26
       obtain ⟨ji27, hji27⟩ : ∃ j_ : Int, (wrap64 (x9_3 - 1)) = j_ := ⟨_, rfl⟩
       replace H : (if 0 ≤ (ji27) then (if (ji27) < (x5_3.length : Int) then (if (rd x5_3 x9_3) < (rd x5_3 (ji27)) then (gangsawref14_ends.l2 k3 ((x5_3.set (x9_3 : Int).toNat (rd x5_3 (ji27))).set ((ji27) : Int).toNat (rd x5_3 x9_3)) x8_2 ji27) else (gangsawref14_ends.l1 k3 x5_3 (wrap64 (x8_2 + 1)))) else (none)) else (none)) = some r := by first | (rw [hji27] at H; exact H) | (simp only [hji27] at H ⊢; exact H)
       have hji27w : (IntKind.i64.wrap (x9_3 - 1)) = ji27 := (i64_w _).trans hji27
       by_cases c28 : 0 ≤ (ji27)
       rotate_left
       ·rw [if_neg c28] at H
        exact absurd H (by simp)
       rw [if_pos c28] at H
       have c28b0 : decide (0 ≤ (ji27)) = true := decide_eq_true c28
       clear c28
       by_cases c29 : (ji27) < (x5_3.length : Int)
       rotate_left
       ·rw [if_neg c29] at H
        exact absurd H (by simp)
       rw [if_pos c29] at H
       have c29b0 : decide ((ji27) < (x5_3.length : Int)) = true := decide_eq_true c29
       clear c29
       by_cases c30 : (rd x5_3 x9_3) < (rd x5_3 (ji27))
       rotate_left
       ·rw [if_neg c30] at H
        have c30b0 : decide ((rd x5_3 x9_3) < (rd x5_3 (ji27))) = false := decide_eq_false c30
        clear c30
        have H' := aK H
        clear H
        try go_wp2
        have n0_ := aK (Kd.R_drew HO_5.out)
        have n1_ := aK (zD BK291.out)
        have n2_ := aK (zD BK292.out)
        have n3_ := aK (yD HB.out)
        clear HO_5
        clear BK291
        clear BK292
        clear HB
        have HO_5 := n0_
        have BK291 := n1_
        have BK292 := n2_
        have HB := n3_
        clear n0_ n1_ n2_ n3_
        have p310 : 0 ≤ (x9_3 : Int) := of_decide_eq_true (by assumption)
        have q310 : x9_3 < (x5_3.length : Int) := of_decide_eq_true (by assumption)
        obtain ⟨ad310, e310, hx310_0⟩ := Kd.at_int (Kd.R_reads' HO_5.out).2.2 x9_3 p310 q310
        cases e310
        replace p310 := eq_true p310
        replace q310 := eq_true q310
        have p311 : 0 ≤ ((ji27) : Int) := of_decide_eq_true (by assumption)
        have q311 : (ji27) < (x5_3.length : Int) := of_decide_eq_true (by assumption)
        obtain ⟨ad311, e311, hx311_0⟩ := Kd.at_int (Kd.R_reads' HO_5.out).2.2 (ji27) p311 q311
        obtain rfl : ad310 = ad311 := (by injection e311)
        replace p311 := eq_true p311
        replace q311 := eq_true q311
        refine start_ (n := 14) (S := fun w' => w'.cell? (ad310.add (x9_3).toNat) = some (.int .i64 (rd x5_3 x9_3)) ∧ w'.cell? (ad310.add ((ji27)).toNat) = some (.int .i64 (rd x5_3 (ji27)))) (ds := []) #[false, false, false, false, false, false, false, false, false, false, false, false, false, false] (by kernel_rfl) rfl rfl ⟨hx310_0, hx311_0⟩ (fun hHeld => ?_); refine with_tabW gangsawref14_ends.tab11 gangsawref14_ends.bits11 (fun HT_ HW_ => ?_)
        generalize wr.drew = w37 at HO_5 BK291 BK292 HB hx310_0 hx311_0 hHeld ⊢
        refine pure_ (i := 0) (N := some 43) (v := ?_) (a' := ?_) #[true, false, false, false, false, false, false, false, false, false, false, false, false, false] rfl rfl (any_of HT_.out (by kernel_rfl)) (fun _ _ _ h => h) (Or.inl ⟨by rfl, ?_⟩) ?_ ?_
        rotate_left
        ·intro w'
         go_simp
         with_reducible rfl
        rotate_left
        ·simp only [Act.put, sA, sZ, sS, i64_w, i32_w]
         rfl
        refine pure_ (i := 1) (N := some 44) (v := ?_) (a' := ?_) #[true, true, false, false, false, false, false, false, false, false, false, false, false, false] rfl rfl (any_of HT_.out (by kernel_rfl)) (fun _ _ _ h => h) (Or.inl ⟨by rfl, ?_⟩) ?_ ?_
        rotate_left
        ·intro w'
         go_simp
         with_reducible rfl
        rotate_left
        ·simp only [Act.put, sA, sZ, sS, i64_w, i32_w]
         rfl
        refine pure_ (i := 2) (N := some 45) (v := ?_) (a' := ?_) #[true, true, true, false, false, false, false, false, false, false, false, false, false, false] rfl rfl (any_of HT_.out (by kernel_rfl)) (fun _ _ _ h => h) (Or.inl ⟨by rfl, ?_⟩) ?_ ?_
        rotate_left
        ·intro w'
         go_simp
         with_reducible rfl
        rotate_left
        ·simp only [Act.put, sA, sZ, sS, i64_w, i32_w]
         rfl
        refine pure_ (i := 3) (N := some 46) (v := ?_) (a' := ?_) #[true, true, true, true, false, false, false, false, false, false, false, false, false, false] rfl rfl (any_of HT_.out (by kernel_rfl)) (fun _ _ _ h => h) (Or.inl ⟨by rfl, ?_⟩) ?_ ?_
        rotate_left
        ·intro w'
         go_simp
         with_reducible rfl
        rotate_left
        ·simp only [Act.put, sA, sZ, sS, i64_w, i32_w]
         rfl
        refine pure_ (i := 4) (N := some 47) (v := ?_) (a' := ?_) #[true, true, true, true, true, false, false, false, false, false, false, false, false, false] rfl rfl (any_of HT_.out (by kernel_rfl)) (fun _ _ _ h => h) (Or.inl ⟨by rfl, ?_⟩) ?_ ?_
        rotate_left
        ·intro w'
         go_simp
         with_reducible rfl
        rotate_left
        ·simp only [Act.put, sA, sZ, sS, i64_w, i32_w]
         rfl
        refine pure_ (i := 5) (N := some 48) (v := ?_) (a' := ?_) #[true, true, true, true, true, true, false, false, false, false, false, false, false, false] rfl rfl (any_of HT_.out (by kernel_rfl)) (fun _ _ _ h => h) (Or.inl ⟨by rfl, ?_⟩) ?_ ?_
        rotate_left
        ·intro w'
         go_simp
         with_reducible rfl
        rotate_left
        ·simp only [Act.put, sA, sZ, sS, i64_w, i32_w]
         rfl
        refine pure_ (i := 7) (N := some 50) (v := ?_) (a' := ?_) #[true, true, true, true, true, true, false, true, false, false, false, false, false, false] rfl rfl (any_of HT_.out (by kernel_rfl)) (fun _ _ _ h => h) (Or.inl ⟨by rfl, ?_⟩) ?_ ?_
        rotate_left
        ·intro w'
         go_simp
         with_reducible rfl
        rotate_left
        ·simp only [Act.put, sA, sZ, sS, i64_w, i32_w]
         rfl
        refine pure_ (i := 8) (N := some 51) (v := ?_) (a' := ?_) #[true, true, true, true, true, true, false, true, true, false, false, false, false, false] rfl rfl (any_of HT_.out (by kernel_rfl)) (fun _ _ _ h => h) (Or.inl ⟨by rfl, ?_⟩) ?_ ?_
        rotate_left
        ·intro w'
         go_simp
         with_reducible rfl
        rotate_left
        ·simp only [Act.put, sA, sZ, sS, i64_w, i32_w]
         rfl
        refine pure_ (i := 9) (N := some 52) (v := ?_) (a' := ?_) #[true, true, true, true, true, true, false, true, true, true, false, false, false, false] rfl rfl (any_of HT_.out (by kernel_rfl)) (fun _ _ _ h => h) (Or.inl ⟨by rfl, ?_⟩) ?_ ?_
        rotate_left
        ·intro w'
         go_simp
         with_reducible rfl
        rotate_left
        ·simp only [Act.put, sA, sZ, sS, i64_w, i32_w]
         rfl
        refine pure_ (i := 10) (N := some 53) (v := ?_) (a' := ?_) #[true, true, true, true, true, true, false, true, true, true, true, false, false, false] rfl rfl (any_of HT_.out (by kernel_rfl)) (fun _ _ _ h => h) (Or.inl ⟨by rfl, ?_⟩) ?_ ?_
        rotate_left
        ·intro w'
         go_simp
         with_reducible rfl
        rotate_left
        ·simp only [Act.put, sA, sZ, sS, i64_w, i32_w]
         rfl
        refine take_ (i := 6) (N := some 49) (v := ?_) (a' := ?_) #[true, true, true, true, true, true, true, true, true, true, true, false, false, false] rfl rfl (take_ofW HT_.out HW_.out (by kernel_rfl)) (fun _ _ _ h => h) (Or.inl ⟨by rfl, ?_⟩) hHeld ?_ ?_
        rotate_left
        ·rintro w' ⟨s0, s1⟩
         go_simp
         with_reducible rfl
        rotate_left
        ·simp only [Act.put, sA, sZ, sS, i64_w, i32_w]
         rfl
        refine take_ (i := 11) (N := some 54) (v := ?_) (a' := ?_) #[true, true, true, true, true, true, true, true, true, true, true, true, false, false] rfl rfl (take_ofW HT_.out HW_.out (by kernel_rfl)) (fun _ _ _ h => h) (Or.inl ⟨by rfl, ?_⟩) hHeld ?_ ?_
        rotate_left
        ·rintro w' ⟨s0, s1⟩
         go_simp
         with_reducible rfl
        rotate_left
        ·simp only [Act.put, sA, sZ, sS, i64_w, i32_w]
         rfl
        refine pure_ (i := 12) (N := some 55) (v := ?_) (a' := ?_) #[true, true, true, true, true, true, true, true, true, true, true, true, true, false] rfl rfl (any_of HT_.out (by kernel_rfl)) (fun _ _ _ h => h) (Or.inl ⟨by rfl, ?_⟩) ?_ ?_
        rotate_left
        ·intro w'
         go_simp
         with_reducible rfl
        rotate_left
        ·simp only [Act.put, sA, sZ, sS, i64_w, i32_w]
         rfl
        refine pure_ (i := 13) (N := some 56) (v := ?_) (a' := ?_) #[true, true, true, true, true, true, true, true, true, true, true, true, true, true] rfl rfl (any_of HT_.out (by kernel_rfl)) (fun _ _ _ h => h) (Or.inl ⟨by rfl, ?_⟩) ?_ ?_
        rotate_left
        ·intro w'
         go_simp
         with_reducible rfl
        rotate_left
        ·simp only [Act.put, sA, sZ, sS, i64_w, i32_w]
         rfl
        refine done_ (done_of HT_.out (by kernel_rfl)) ?_
        try go_wp2
        (try simp only [← hl5_3])
        go_roundg k3
        case measure => have := HK1.out; have := HK2.out; have := HK3.out; omega
        case rel => exact ⟨(x5_3), (wrap64 (x8_2 + 1)), (by first | rfl | (simp; done) | (simp [*]; done)), H', ⟨by have := HK1.out; have := HK2.out; have := HK3.out; omega⟩, ⟨by (try simp only [hl5_3]); (with_reducible repeat (first | apply Kd.R_alloc | apply Kd.R_drewN | apply Kd.R_drew)); exact HO_5.out⟩, ⟨by (try simp only [hl5_3]); exact BK291.out⟩, ⟨by (try simp only [hl5_3]); exact BK292.out⟩, ⟨HB.out⟩⟩
       rw [if_pos c30] at H
       have c30b0 : decide ((rd x5_3 x9_3) < (rd x5_3 (ji27))) = true := decide_eq_true c30
       clear c30
       obtain ⟨y314, hy314⟩ : ∃ y_ : List Int, y_ = (x5_3.set (x9_3 : Int).toNat (rd x5_3 (ji27))) := ⟨_, rfl⟩
       replace H : (gangsawref14_ends.l2 k3 (y314.set ((ji27) : Int).toNat (rd x5_3 x9_3)) x8_2 ji27) = some r := by first | (rw [hy314]; with_reducible exact H) | (have H2_ := (Option.bind_some _ _).symm.trans H; rw [hy314]; with_reducible exact H2_) | (have H2_ := (Option.bind_some _ _).symm.trans H; with_reducible exact H2_) | with_reducible exact H | (rw [hy314]; exact H) | exact H
       have Ny314 := aK hy314
       clear hy314
       obtain ⟨y315, hy315⟩ : ∃ y_ : List Int, y_ = (y314.set ((ji27) : Int).toNat (rd x5_3 x9_3)) := ⟨_, rfl⟩
       replace H : (gangsawref14_ends.l2 k3 y315 x8_2 ji27) = some r := by first | (rw [hy315]; with_reducible exact H) | (have H2_ := (Option.bind_some _ _).symm.trans H; rw [hy315]; with_reducible exact H2_) | (have H2_ := (Option.bind_some _ _).symm.trans H; with_reducible exact H2_) | with_reducible exact H | (rw [hy315]; exact H) | exact H
       have Ny315 := aK hy315
       clear hy315
       have H' := aK H
       clear H
       try go_wp2
       have n0_ := aK (Kd.R_drew HO_5.out)
       have n1_ := aK (zD BK291.out)
       have n2_ := aK (zD BK292.out)
       have n3_ := aK (yD HB.out)
       clear HO_5
       clear BK291
       clear BK292
       clear HB
       have HO_5 := n0_
       have BK291 := n1_
       have BK292 := n2_
       have HB := n3_
       clear n0_ n1_ n2_ n3_
       have p310 : 0 ≤ (x9_3 : Int) := of_decide_eq_true (by assumption)
       have q310 : x9_3 < (x5_3.length : Int) := of_decide_eq_true (by assumption)
       obtain ⟨ad310, e310, hx310_0⟩ := Kd.at_int (Kd.R_reads' HO_5.out).2.2 x9_3 p310 q310
       cases e310
       replace p310 := eq_true p310
       replace q310 := eq_true q310
       have p311 : 0 ≤ ((ji27) : Int) := of_decide_eq_true (by assumption)
       have q311 : (ji27) < (x5_3.length : Int) := of_decide_eq_true (by assumption)
       obtain ⟨ad311, e311, hx311_0⟩ := Kd.at_int (Kd.R_reads' HO_5.out).2.2 (ji27) p311 q311
       obtain rfl : ad310 = ad311 := (by injection e311)
       replace p311 := eq_true p311
       replace q311 := eq_true q311
       refine start_ (n := 14) (S := fun w' => w'.cell? (ad310.add (x9_3).toNat) = some (.int .i64 (rd x5_3 x9_3)) ∧ w'.cell? (ad310.add ((ji27)).toNat) = some (.int .i64 (rd x5_3 (ji27)))) (ds := []) #[false, false, false, false, false, false, false, false, false, false, false, false, false, false] (by kernel_rfl) rfl rfl ⟨hx310_0, hx311_0⟩ (fun hHeld => ?_); refine with_tabW gangsawref14_ends.tab11 gangsawref14_ends.bits11 (fun HT_ HW_ => ?_)
       generalize wr.drew = w33 at HO_5 BK291 BK292 HB hx310_0 hx311_0 hHeld ⊢
       refine pure_ (i := 0) (N := some 43) (v := ?_) (a' := ?_) #[true, false, false, false, false, false, false, false, false, false, false, false, false, false] rfl rfl (any_of HT_.out (by kernel_rfl)) (fun _ _ _ h => h) (Or.inl ⟨by rfl, ?_⟩) ?_ ?_
       rotate_left
       ·intro w'
        go_simp
        with_reducible rfl
       rotate_left
       ·simp only [Act.put, sA, sZ, sS, i64_w, i32_w]
        rfl
       refine pure_ (i := 1) (N := some 44) (v := ?_) (a' := ?_) #[true, true, false, false, false, false, false, false, false, false, false, false, false, false] rfl rfl (any_of HT_.out (by kernel_rfl)) (fun _ _ _ h => h) (Or.inl ⟨by rfl, ?_⟩) ?_ ?_
       rotate_left
       ·intro w'
        go_simp
        with_reducible rfl
       rotate_left
       ·simp only [Act.put, sA, sZ, sS, i64_w, i32_w]
        rfl
       refine pure_ (i := 2) (N := some 45) (v := ?_) (a' := ?_) #[true, true, true, false, false, false, false, false, false, false, false, false, false, false] rfl rfl (any_of HT_.out (by kernel_rfl)) (fun _ _ _ h => h) (Or.inl ⟨by rfl, ?_⟩) ?_ ?_
       rotate_left
       ·intro w'
        go_simp
        with_reducible rfl
       rotate_left
       ·simp only [Act.put, sA, sZ, sS, i64_w, i32_w]
        rfl
       refine pure_ (i := 3) (N := some 46) (v := ?_) (a' := ?_) #[true, true, true, true, false, false, false, false, false, false, false, false, false, false] rfl rfl (any_of HT_.out (by kernel_rfl)) (fun _ _ _ h => h) (Or.inl ⟨by rfl, ?_⟩) ?_ ?_
       rotate_left
       ·intro w'
        go_simp
        with_reducible rfl
       rotate_left
       ·simp only [Act.put, sA, sZ, sS, i64_w, i32_w]
        rfl
       refine pure_ (i := 4) (N := some 47) (v := ?_) (a' := ?_) #[true, true, true, true, true, false, false, false, false, false, false, false, false, false] rfl rfl (any_of HT_.out (by kernel_rfl)) (fun _ _ _ h => h) (Or.inl ⟨by rfl, ?_⟩) ?_ ?_
       rotate_left
       ·intro w'
        go_simp
        with_reducible rfl
       rotate_left
       ·simp only [Act.put, sA, sZ, sS, i64_w, i32_w]
        rfl
       refine pure_ (i := 5) (N := some 48) (v := ?_) (a' := ?_) #[true, true, true, true, true, true, false, false, false, false, false, false, false, false] rfl rfl (any_of HT_.out (by kernel_rfl)) (fun _ _ _ h => h) (Or.inl ⟨by rfl, ?_⟩) ?_ ?_
       rotate_left
       ·intro w'
        go_simp
        with_reducible rfl
       rotate_left
       ·simp only [Act.put, sA, sZ, sS, i64_w, i32_w]
        rfl
       refine pure_ (i := 7) (N := some 50) (v := ?_) (a' := ?_) #[true, true, true, true, true, true, false, true, false, false, false, false, false, false] rfl rfl (any_of HT_.out (by kernel_rfl)) (fun _ _ _ h => h) (Or.inl ⟨by rfl, ?_⟩) ?_ ?_
       rotate_left
       ·intro w'
        go_simp
        with_reducible rfl
       rotate_left
       ·simp only [Act.put, sA, sZ, sS, i64_w, i32_w]
        rfl
       refine pure_ (i := 8) (N := some 51) (v := ?_) (a' := ?_) #[true, true, true, true, true, true, false, true, true, false, false, false, false, false] rfl rfl (any_of HT_.out (by kernel_rfl)) (fun _ _ _ h => h) (Or.inl ⟨by rfl, ?_⟩) ?_ ?_
       rotate_left
       ·intro w'
        go_simp
        with_reducible rfl
       rotate_left
       ·simp only [Act.put, sA, sZ, sS, i64_w, i32_w]
        rfl
       refine pure_ (i := 9) (N := some 52) (v := ?_) (a' := ?_) #[true, true, true, true, true, true, false, true, true, true, false, false, false, false] rfl rfl (any_of HT_.out (by kernel_rfl)) (fun _ _ _ h => h) (Or.inl ⟨by rfl, ?_⟩) ?_ ?_
       rotate_left
       ·intro w'
        go_simp
        with_reducible rfl
       rotate_left
       ·simp only [Act.put, sA, sZ, sS, i64_w, i32_w]
        rfl
       refine pure_ (i := 10) (N := some 53) (v := ?_) (a' := ?_) #[true, true, true, true, true, true, false, true, true, true, true, false, false, false] rfl rfl (any_of HT_.out (by kernel_rfl)) (fun _ _ _ h => h) (Or.inl ⟨by rfl, ?_⟩) ?_ ?_
       rotate_left
       ·intro w'
        go_simp
        with_reducible rfl
       rotate_left
       ·simp only [Act.put, sA, sZ, sS, i64_w, i32_w]
        rfl
       refine take_ (i := 6) (N := some 49) (v := ?_) (a' := ?_) #[true, true, true, true, true, true, true, true, true, true, true, false, false, false] rfl rfl (take_ofW HT_.out HW_.out (by kernel_rfl)) (fun _ _ _ h => h) (Or.inl ⟨by rfl, ?_⟩) hHeld ?_ ?_
       rotate_left
       ·rintro w' ⟨s0, s1⟩
        go_simp
        with_reducible rfl
       rotate_left
       ·simp only [Act.put, sA, sZ, sS, i64_w, i32_w]
        rfl
       refine take_ (i := 11) (N := some 54) (v := ?_) (a' := ?_) #[true, true, true, true, true, true, true, true, true, true, true, true, false, false] rfl rfl (take_ofW HT_.out HW_.out (by kernel_rfl)) (fun _ _ _ h => h) (Or.inl ⟨by rfl, ?_⟩) hHeld ?_ ?_
       rotate_left
       ·rintro w' ⟨s0, s1⟩
        go_simp
        with_reducible rfl
       rotate_left
       ·simp only [Act.put, sA, sZ, sS, i64_w, i32_w]
        rfl
       refine pure_ (i := 12) (N := some 55) (v := ?_) (a' := ?_) #[true, true, true, true, true, true, true, true, true, true, true, true, true, false] rfl rfl (any_of HT_.out (by kernel_rfl)) (fun _ _ _ h => h) (Or.inl ⟨by rfl, ?_⟩) ?_ ?_
       rotate_left
       ·intro w'
        go_simp
        with_reducible rfl
       rotate_left
       ·simp only [Act.put, sA, sZ, sS, i64_w, i32_w]
        rfl
       refine pure_ (i := 13) (N := some 56) (v := ?_) (a' := ?_) #[true, true, true, true, true, true, true, true, true, true, true, true, true, true] rfl rfl (any_of HT_.out (by kernel_rfl)) (fun _ _ _ h => h) (Or.inl ⟨by rfl, ?_⟩) ?_ ?_
       rotate_left
       ·intro w'
        go_simp
        with_reducible rfl
       rotate_left
       ·simp only [Act.put, sA, sZ, sS, i64_w, i32_w]
        rfl
       refine done_ (done_of HT_.out (by kernel_rfl)) ?_
       try go_wp2
       have n0_ := aK (Kd.R_drew HO_5.out)
       have n1_ := aK (zD BK291.out)
       have n2_ := aK (zD BK292.out)
       have n3_ := aK (yD HB.out)
       clear HO_5
       clear BK291
       clear BK292
       clear HB
       have HO_5 := n0_
       have BK291 := n1_
       have BK292 := n2_
       have HB := n3_
       clear n0_ n1_ n2_ n3_
       have p312 : 0 ≤ ((ji27) : Int) := of_decide_eq_true (by assumption)
       have q312 : (ji27) < (x5_3.length : Int) := of_decide_eq_true (by assumption)
       obtain ⟨ad312, e312, hx312_0⟩ := Kd.at_int (Kd.R_reads' HO_5.out).2.2 (ji27) p312 q312
       obtain rfl : ad310 = ad312 := (by injection e312)
       replace p312 := eq_true p312
       replace q312 := eq_true q312
       have p313 : 0 ≤ (x9_3 : Int) := of_decide_eq_true (by assumption)
       have q313 : x9_3 < (x5_3.length : Int) := of_decide_eq_true (by assumption)
       obtain ⟨ad313, e313, hx313_0⟩ := Kd.at_int (Kd.R_reads' HO_5.out).2.2 x9_3 p313 q313
       obtain rfl : ad310 = ad313 := (by injection e313)
       replace p313 := eq_true p313
       replace q313 := eq_true q313
       have p31 : 0 ≤ (x9_3 : Int) := of_decide_eq_true (by assumption)
       have q31 : (x9_3 : Int) < ((x5_3.length : Int) : Int) := of_decide_eq_true (by assumption)
       obtain ⟨go31, co31, eo31, gb31, gl31, cl31, HG31⟩ := Kd.R_form HO_5.out (by omega)
       (first | cases eo31 | (injection eo31 with ea_ en_ ec_; (first | subst ea_ | (injection ea_ with ea_; subst ea_)); subst ec_; clear en_))
       have GB31 := aK gb31
       have GG31 := aK HG31
       clear gb31 gl31 HG31
       (first | simp only [add_plain] at hx310_0 | skip)
       (first | simp only [add_plain] at hx311_0 | skip)
       (first | simp only [add_plain] at hx312_0 | skip)
       (first | simp only [add_plain] at hx313_0 | skip)
       obtain ⟨hx31_0, hf31_0⟩ := Kd.R_celln 0 HO_5.out (x9_3 : Int) p31 q31
       replace p31 := eq_true p31
       replace q31 := eq_true q31
       have HP35 := Kd.R_putn HO_5.out (x9_3 : Int) (rd x5_3 (ji27))
       rw [← Ny314.out] at HP35
       have HQ35 := aK HP35
       clear HP35
       have p32 : 0 ≤ ((ji27) : Int) := of_decide_eq_true (by assumption)
       have q32 : ((ji27) : Int) < ((x5_3.length : Int) : Int) := of_decide_eq_true (by assumption)
       obtain ⟨hx32_0, hf32_0⟩ := Kd.R_celln 0 HQ35.out ((ji27) : Int) p32 q32
       replace p32 := eq_true p32
       replace q32 := eq_true q32
       have HP36 := Kd.R_putn HQ35.out ((ji27) : Int) (rd x5_3 x9_3)
       rw [← Ny315.out] at HP36
       have HQ36 := aK HP36
       clear HP36
       refine start_ (n := 18) (S := fun w' => w'.cell? ⟨go31, ((ji27)).toNat, none⟩ = some (.int .i64 (rd x5_3 (ji27))) ∧ w'.cell? ⟨go31, (x9_3).toNat, none⟩ = some (.int .i64 (rd x5_3 x9_3))) (ds := [15, 17]) #[false, false, false, false, false, false, false, false, false, false, false, false, false, false, false, false, false, false] (by kernel_rfl) rfl rfl ⟨hx312_0, hx313_0⟩ (fun hHeld => ?_); refine with_tabW gangsawref14_ends.tab13 gangsawref14_ends.bits13 (fun HT_ HW_ => ?_)
       generalize w33.drew = w34 at HO_5 BK291 BK292 HB GG31 HQ35 HQ36 hf31_0 hf32_0 hx310_0 hx311_0 hx312_0 hx313_0 hx31_0 hx32_0 hHeld ⊢
       refine pure_ (i := 0) (N := some 59) (v := ?_) (a' := ?_) #[true, false, false, false, false, false, false, false, false, false, false, false, false, false, false, false, false, false] rfl rfl (any_of HT_.out (by kernel_rfl)) (fun _ _ _ h => h) (Or.inl ⟨by rfl, ?_⟩) ?_ ?_
       rotate_left
       ·intro w'
        go_simp
        with_reducible rfl
       rotate_left
       ·simp only [Act.put, sA, sZ, sS, i64_w, i32_w]
        rfl
       refine pure_ (i := 1) (N := some 60) (v := ?_) (a' := ?_) #[true, true, false, false, false, false, false, false, false, false, false, false, false, false, false, false, false, false] rfl rfl (any_of HT_.out (by kernel_rfl)) (fun _ _ _ h => h) (Or.inl ⟨by rfl, ?_⟩) ?_ ?_
       rotate_left
       ·intro w'
        go_simp
        with_reducible rfl
       rotate_left
       ·simp only [Act.put, sA, sZ, sS, i64_w, i32_w]
        rfl
       refine pure_ (i := 2) (N := some 61) (v := ?_) (a' := ?_) #[true, true, true, false, false, false, false, false, false, false, false, false, false, false, false, false, false, false] rfl rfl (any_of HT_.out (by kernel_rfl)) (fun _ _ _ h => h) (Or.inl ⟨by rfl, ?_⟩) ?_ ?_
       rotate_left
       ·intro w'
        go_simp
        with_reducible rfl
       rotate_left
       ·simp only [Act.put, sA, sZ, sS, i64_w, i32_w]
        rfl
       refine pure_ (i := 3) (N := some 62) (v := ?_) (a' := ?_) #[true, true, true, true, false, false, false, false, false, false, false, false, false, false, false, false, false, false] rfl rfl (any_of HT_.out (by kernel_rfl)) (fun _ _ _ h => h) (Or.inl ⟨by rfl, ?_⟩) ?_ ?_
       rotate_left
       ·intro w'
        go_simp
        with_reducible rfl
       rotate_left
       ·simp only [Act.put, sA, sZ, sS, i64_w, i32_w]
        rfl
       refine pure_ (i := 4) (N := some 63) (v := ?_) (a' := ?_) #[true, true, true, true, true, false, false, false, false, false, false, false, false, false, false, false, false, false] rfl rfl (any_of HT_.out (by kernel_rfl)) (fun _ _ _ h => h) (Or.inl ⟨by rfl, ?_⟩) ?_ ?_
       rotate_left
       ·intro w'
        go_simp
        with_reducible rfl
       rotate_left
       ·simp only [Act.put, sA, sZ, sS, i64_w, i32_w]
        rfl
       refine pure_ (i := 5) (N := some 64) (v := ?_) (a' := ?_) #[true, true, true, true, true, true, false, false, false, false, false, false, false, false, false, false, false, false] rfl rfl (any_of HT_.out (by kernel_rfl)) (fun _ _ _ h => h) (Or.inl ⟨by rfl, ?_⟩) ?_ ?_
       rotate_left
       ·intro w'
        go_simp
        with_reducible rfl
       rotate_left
       ·simp only [Act.put, sA, sZ, sS, i64_w, i32_w]
        rfl
       refine pure_ (i := 6) (N := some 65) (v := ?_) (a' := ?_) #[true, true, true, true, true, true, true, false, false, false, false, false, false, false, false, false, false, false] rfl rfl (any_of HT_.out (by kernel_rfl)) (fun _ _ _ h => h) (Or.inl ⟨by rfl, ?_⟩) ?_ ?_
       rotate_left
       ·intro w'
        go_simp
        with_reducible rfl
       rotate_left
       ·simp only [Act.put, sA, sZ, sS, i64_w, i32_w]
        rfl
       refine pure_ (i := 7) (N := some 66) (v := ?_) (a' := ?_) #[true, true, true, true, true, true, true, true, false, false, false, false, false, false, false, false, false, false] rfl rfl (any_of HT_.out (by kernel_rfl)) (fun _ _ _ h => h) (Or.inl ⟨by rfl, ?_⟩) ?_ ?_
       rotate_left
       ·intro w'
        go_simp
        with_reducible rfl
       rotate_left
       ·simp only [Act.put, sA, sZ, sS, i64_w, i32_w]
        rfl
       refine pure_ (i := 8) (N := some 67) (v := ?_) (a' := ?_) #[true, true, true, true, true, true, true, true, true, false, false, false, false, false, false, false, false, false] rfl rfl (any_of HT_.out (by kernel_rfl)) (fun _ _ _ h => h) (Or.inl ⟨by rfl, ?_⟩) ?_ ?_
       rotate_left
       ·intro w'
        go_simp
        with_reducible rfl
       rotate_left
       ·simp only [Act.put, sA, sZ, sS, i64_w, i32_w]
        rfl
       refine pure_ (i := 10) (N := some 69) (v := ?_) (a' := ?_) #[true, true, true, true, true, true, true, true, true, false, true, false, false, false, false, false, false, false] rfl rfl (any_of HT_.out (by kernel_rfl)) (fun _ _ _ h => h) (Or.inl ⟨by rfl, ?_⟩) ?_ ?_
       rotate_left
       ·intro w'
        go_simp
        with_reducible rfl
       rotate_left
       ·simp only [Act.put, sA, sZ, sS, i64_w, i32_w]
        rfl
       refine pure_ (i := 11) (N := some 70) (v := ?_) (a' := ?_) #[true, true, true, true, true, true, true, true, true, false, true, true, false, false, false, false, false, false] rfl rfl (any_of HT_.out (by kernel_rfl)) (fun _ _ _ h => h) (Or.inl ⟨by rfl, ?_⟩) ?_ ?_
       rotate_left
       ·intro w'
        go_simp
        with_reducible rfl
       rotate_left
       ·simp only [Act.put, sA, sZ, sS, i64_w, i32_w]
        rfl
       refine pure_ (i := 12) (N := some 71) (v := ?_) (a' := ?_) #[true, true, true, true, true, true, true, true, true, false, true, true, true, false, false, false, false, false] rfl rfl (any_of HT_.out (by kernel_rfl)) (fun _ _ _ h => h) (Or.inl ⟨by rfl, ?_⟩) ?_ ?_
       rotate_left
       ·intro w'
        go_simp
        with_reducible rfl
       rotate_left
       ·simp only [Act.put, sA, sZ, sS, i64_w, i32_w]
        rfl
       refine take_ (i := 9) (N := some 68) (v := ?_) (a' := ?_) #[true, true, true, true, true, true, true, true, true, true, true, true, true, false, false, false, false, false] rfl rfl (take_ofW HT_.out HW_.out (by kernel_rfl)) (fun _ _ _ h => h) (Or.inl ⟨by rfl, ?_⟩) hHeld ?_ ?_
       rotate_left
       ·rintro w' ⟨s0, s1⟩
        go_simp
        with_reducible rfl
       rotate_left
       ·simp only [Act.put, sA, sZ, sS, i64_w, i32_w]
        rfl
       refine take_ (i := 13) (N := some 72) (v := ?_) (a' := ?_) #[true, true, true, true, true, true, true, true, true, true, true, true, true, true, false, false, false, false] rfl rfl (take_ofW HT_.out HW_.out (by kernel_rfl)) (fun _ _ _ h => h) (Or.inl ⟨by rfl, ?_⟩) hHeld ?_ ?_
       rotate_left
       ·rintro w' ⟨s0, s1⟩
        go_simp
        with_reducible rfl
       rotate_left
       ·simp only [Act.put, sA, sZ, sS, i64_w, i32_w]
        rfl
       refine pure_ (i := 14) (N := some 73) (v := ?_) (a' := ?_) #[true, true, true, true, true, true, true, true, true, true, true, true, true, true, true, false, false, false] rfl rfl (any_of HT_.out (by kernel_rfl)) (fun _ _ _ h => h) (Or.inl ⟨by rfl, ?_⟩) ?_ ?_
       rotate_left
       ·intro w'
        go_simp
        with_reducible rfl
       rotate_left
       ·simp only [Act.put, sA, sZ, sS, i64_w, i32_w]
        rfl
       refine last_ (i := 15) (N := none) #[true, true, true, true, true, true, true, true, true, true, true, true, true, true, true, true, false, false] rfl rfl (one_of HT_.out (by kernel_rfl)) (by decide) (fun K hK => ?_)
       refine skip_ (w1 := ?_) (by rfl) rfl ?_ ?_
       rotate_left
       ·go_simp
        rfl
       refine hK.out _ _ ?_
       clear hK K
       refine pure_ (i := 16) (N := some 74) (v := ?_) (a' := ?_) #[true, true, true, true, true, true, true, true, true, true, true, true, true, true, true, true, true, false] rfl rfl (any_of HT_.out (by kernel_rfl)) (fun _ _ _ h => h) (Or.inl ⟨by rfl, ?_⟩) ?_ ?_
       rotate_left
       ·intro w'
        go_simp
        with_reducible rfl
       rotate_left
       ·simp only [Act.put, sA, sZ, sS, i64_w, i32_w]
        rfl
       refine last_ (i := 17) (N := none) #[true, true, true, true, true, true, true, true, true, true, true, true, true, true, true, true, true, true] rfl rfl (one_of HT_.out (by kernel_rfl)) (by decide) (fun K hK => ?_)
       refine skip_ (w1 := ?_) (by rfl) rfl ?_ ?_
       rotate_left
       ·go_simp
        rfl
       refine hK.out _ _ ?_
       clear hK K
       refine done_ (done_of HT_.out (by kernel_rfl)) ?_
       try go_wp2
       (try simp only [← hl5_3])
       go_roundg k3
       case measure => have := HK1.out; have := HK2.out; have := HK3.out; omega
       case rel => exact ⟨(y315), (ji27), (by first | rfl | (simp; done) | (simp only [← hji27] <;> (first | rfl | simp)) | (simp [*]; done)), H', ⟨by have := HK1.out; have := HK2.out; have := HK3.out; omega⟩, ⟨by (try simp only [hl5_3]); (with_reducible repeat (first | apply Kd.R_alloc | apply Kd.R_drewN | apply Kd.R_drew)); exact HQ36.out⟩, ⟨by (try simp only [hl5_3]); refine blk_far ?_ (by have h_ := Kd.R_ne HO_5.out BK291.out (by decide); intro e_; exact h_ (by rw [e_]; rfl)) _; refine blk_far ?_ (by have h_ := Kd.R_ne HO_5.out BK291.out (by decide); intro e_; exact h_ (by rw [e_]; rfl)) _; exact BK291.out⟩, ⟨by (try simp only [hl5_3]); refine blk_far ?_ (by have h_ := Kd.R_ne HO_5.out BK292.out (by decide); intro e_; exact h_ (by rw [e_]; rfl)) _; refine blk_far ?_ (by have h_ := Kd.R_ne HO_5.out BK292.out (by decide); intro e_; exact h_ (by rw [e_]; rfl)) _; exact BK292.out⟩, ⟨by repeat (first | (with_reducible first | exact HB.out | apply yA | apply yN | apply yD | refine yS ?_ GB31.out | refine yS ?_ GB31.out | refine yS ?_ GE291.out | refine yS ?_ GE292.out) | exact HB.out)⟩⟩

end Go.Proofs.YtfedmcehkpfciaaGreat.P
