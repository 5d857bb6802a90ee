/- What functions of the program return: each contract says so of one function, for every input at which its pure function yields. -/
import Derived.Test.YtfedmcehkpfciaaGreatPx0
import Derived.Test.YtfedmcehkpfciaaGreatPx10
namespace Go.Proofs.YtfedmcehkpfciaaGreat.P
open Go.RowKit Go.Proofs.YtfedmcehkpfciaaGreatW.PrintWords Go.Proofs.YtfedmcehkpfciaaGreatW.PrintLast Go.Proofs.YtfedmcehkpfciaaGreatW.PrintMore
attribute [local go_sem] max2_int min2_int max_two min_two max_three min_three max_four min_four   -- for this text's walks alone
set_option linter.unusedVariables false
set_option linter.unusedSimpArgs false

def gangsawref14_Evidence.l0 : Nat → List (S46) → Int → ByteArray → Int → Int → List (S48) → ByteArray → Int → Int → List (S48) → Option ((List (S46)) × Int)
 | 0, _, _, _, _, _, _, _, _, _, _ => none
 | k + 1, x6, x7, x186000, x186001, x186002, x186003, x194000, x194001, x194002, x194003 => if x7 < (x194003.length : Int) then (if 0 ≤ x7 then ((gangsawref14_column.f x186001 x186002 ((rd_T48 x194003 x7).f0) ((rd_T48 x194003 x7).f1)).bind fun bt196 => (if x6.length < 1954687338268 then (gangsawref14_Evidence.l0 k (x6 ++ [(⟨x186000, (⟨(⟨bt196.1, bt196.2.1, bt196.2.2.1⟩ : S24), (⟨bt196.2.2.2.1, bt196.2.2.2.2.1, bt196.2.2.2.2.2⟩ : S24)⟩ : S26), (rd_T48 x194003 x7).f2⟩ : S46)]) (wrap64 (x7 + 1)) x186000 x186001 x186002 x186003 x194000 x194001 x194002 x194003) else (none))) else (none)) else (some (x6, 0))
def gangsawref14_Evidence.f (k : Nat) (a0_0 : ByteArray) (a0_1 : Int) (a0_2 : Int) (l0_3 : List (S48)) : Option ((List (S46)) × Int) := (gangsawref14_Normal.f k a0_0 a0_1 a0_2 l0_3).bind fun bt186 => (if bt186.2.2.2.2 = 0 then (gangsawref14_Evidence.l0 k ([] : List (S46)) 0 a0_0 a0_1 a0_2 l0_3 bt186.1 bt186.2.1 bt186.2.2.1 bt186.2.2.2.1) else (some (([] : List (S46)), bt186.2.2.2.2)))
theorem gangsawref14_Evidence.mono_l : ∀ k, (∀ y0 y1 y2 y3 y4 y5 y6 y7 y8 y9, LeO (gangsawref14_Evidence.l0 k y0 y1 y2 y3 y4 y5 y6 y7 y8 y9) (gangsawref14_Evidence.l0 (k + 1) y0 y1 y2 y3 y4 y5 y6 y7 y8 y9))
 | 0 => fun _ _ _ _ _ _ _ _ _ _ r h => by simp [gangsawref14_Evidence.l0] at h
 | k + 1 => by
  have ih0 := gangsawref14_Evidence.mono_l k
  ·intro y0 y1 y2 y3 y4 y5 y6 y7 y8 y9
   unfold gangsawref14_Evidence.l0
   repeat' first
   | (with_reducible exact ih0 _ _ _ _ _ _ _ _ _ _)
   | (with_reducible exact gangsawref14_Normal.mono _ _ _ _ _)
   | (with_reducible refine contains3.mono2 (fun x_ => ?_))
   | (with_reducible refine contains33.mono2 (fun x_ => ?_))
   | (with_reducible refine contains48.mono2 (fun x_ => ?_))
   | (with_reducible refine contains9.mono2 (fun x_ => ?_))
   | (with_reducible refine index3.mono2 (fun x_ => ?_))
   | (with_reducible refine index33.mono2 (fun x_ => ?_))
   | (with_reducible refine index48.mono2 (fun x_ => ?_))
   | (with_reducible refine index9.mono2 (fun x_ => ?_))
   | (with_reducible exact LeO.refl _)
   | (with_reducible exact LeO.none _)
   | (with_reducible refine LeO.ite ?_ ?_)
   | (with_reducible refine LeO.bind ?_ (fun _ => ?_))
   | exact ih0 _ _ _ _ _ _ _ _ _ _
   | exact gangsawref14_Normal.mono _ _ _ _ _
   | exact LeO.none _
   | refine LeO.ite ?_ ?_
   | refine LeO.bind ?_ (fun _ => ?_)
theorem gangsawref14_Evidence.mono : ∀ a0 a1 a2 a3 k, LeO (gangsawref14_Evidence.f k a0 a1 a2 a3) (gangsawref14_Evidence.f (k + 1) a0 a1 a2 a3) := by
 intro a0 a1 a2 a3 k
 have ih0 := gangsawref14_Evidence.mono_l k
 unfold gangsawref14_Evidence.f
 repeat' first
   | (with_reducible exact ih0 _ _ _ _ _ _ _ _ _ _)
   | (with_reducible exact gangsawref14_Normal.mono _ _ _ _ _)
   | (with_reducible refine contains3.mono2 (fun x_ => ?_))
   | (with_reducible refine contains33.mono2 (fun x_ => ?_))
   | (with_reducible refine contains48.mono2 (fun x_ => ?_))
   | (with_reducible refine contains9.mono2 (fun x_ => ?_))
   | (with_reducible refine index3.mono2 (fun x_ => ?_))
   | (with_reducible refine index33.mono2 (fun x_ => ?_))
   | (with_reducible refine index48.mono2 (fun x_ => ?_))
   | (with_reducible refine index9.mono2 (fun x_ => ?_))
   | (with_reducible exact LeO.refl _)
   | (with_reducible exact LeO.none _)
   | (with_reducible refine LeO.ite ?_ ?_)
   | (with_reducible refine LeO.bind ?_ (fun _ => ?_))
   | exact ih0 _ _ _ _ _ _ _ _ _ _
   | exact gangsawref14_Normal.mono _ _ _ _ _
   | exact LeO.none _
   | refine LeO.ite ?_ ?_
   | refine LeO.bind ?_ (fun _ => ?_)
def gangsawref14_Evidence.T8 : Bool × List (List Nat × List Nat) := (true, [([], []), ([], []), ([1], [1]), ([], []), ([3], [3]), ([], []), ([5], [5]), ([], []), ([6, 7], [6, 7]), ([8], [8]), ([9], [9]), ([], []), ([11], [11]), ([], []), ([12, 13], [12, 13]), ([14], [14]), ([15], [15]), ([4, 10, 16], [4, 10, 16]), ([], []), ([18], [18]), ([], []), ([19, 20], [19, 20]), ([21], [21]), ([22], [22]), ([2, 17, 23], [2, 17, 23]), ([24], [24]), ([0, 25, 17], [0, 25]), ([26, 26, 0, 1, 2, 3, 4, 5, 6, 7, 8, 9, 10, 11, 12, 13, 14, 15, 16, 17, 18, 19, 20, 21, 22, 23, 24, 25, 26], [0, 26])])
def gangsawref14_Evidence.B8 : List Nat := [0, 0, 2, 0, 8, 0, 32, 0, 224, 480, 992, 0, 2048, 0, 14336, 30720, 63488, 131064, 0, 262144, 0, 1835008, 3932160, 8126464, 16777214, 33554430, 67108863, 134217727]
theorem gangsawref14_Evidence.tab8 : rtab .any (opsOf Tryz.f20 8) = gangsawref14_Evidence.T8 := by kernel_rfl
theorem gangsawref14_Evidence.bits8 : waitsOk gangsawref14_Evidence.T8.2 gangsawref14_Evidence.B8 = true := by kernel_rfl
set_option maxHeartbeats 8000000 in
set_option maxRecDepth 100000 in
theorem gangsawref14_Evidence.calls (k : Nat) (a0_0 : ByteArray) (a0_1 : Int) (a0_2 : Int) (A0_3 : Option Addr) (c0_3 : Nat) (l0_3 : List (S48)) (r1 : List (S46)) (r2 : Int) (w : World) (hr0_3 : Kd.C k48 w A0_3 l0_3.length l0_3) (hc0_3 : l0_3.length ≤ c0_3) (h : gangsawref14_Evidence.f k a0_0 a0_1 a0_2 l0_3 = some (r1, r2)) :
  Calls Tryz.prog 20 #[.agg #[.string a0_0, .int .i64 a0_1, .int .i64 a0_2, .slice A0_3 l0_3.length c0_3]] w fun e w' => ∃ v0_ : Value, e = .returned (.tuple #[v0_, .int .i64 r2]) ∧ Kd.R k46 46 w' w.heap.size (fun _ => True) v0_ r1 ∧ Below w.heap.size w w' := by
 have hu33 := Tryz.underlying33
 have hu30 := Tryz.underlying30
 have hu46 := Tryz.underlying46
 have HR0_3 := aK hr0_3
 have HC0_3 := aK hc0_3
 clear hr0_3 hc0_3
 have HB := aK (Below.refl w.heap.size w)
 have H : ((gangsawref14_Normal.f k a0_0 a0_1 a0_2 l0_3).bind fun bt186 => (if bt186.2.2.2.2 = 0 then (gangsawref14_Evidence.l0 k ([] : List (S46)) 0 a0_0 a0_1 a0_2 l0_3 bt186.1 bt186.2.1 bt186.2.2.1 bt186.2.2.2.1) else (some (([] : List (S46)), bt186.2.2.2.2)))) = some (r1, r2) := h
 clear h
 replace H := Option.bind_eq_some_iff.mp H
 obtain ⟨⟨t186, t187, t188, t189, t192⟩, A20, H⟩ := H
 replace H : (if t192 = 0 then (gangsawref14_Evidence.l0 k ([] : List (S46)) 0 a0_0 a0_1 a0_2 l0_3 t186 t187 t188 t189) else (some (([] : List (S46)), t192))) = some (r1, r2) := H
 have A2 := aK A20
 clear A20
 by_cases c3 : t192 = 0
 ·rw [if_pos c3] at H
  have c3b0 : (t192 == 0) = true := beq_iff_eq.mpr c3
  have c3b1 : (t192 != 0) = false := bne_eq_false_iff_eq.mpr c3
  clear c3
  have H' := aK H
  clear H
  go_enter Tryz.func20, Tryz.ntmps20
  go_wp2_with (first | ((with_reducible refine gate_dst (N := 1) rfl ?_); refine box_event ?hg (N := 1) ?hd (cs := #[.string a0_0, .int .i64 a0_1, .int .i64 a0_2, .slice A0_3 l0_3.length c0_3]) (t := 33) ?hr ?_; (case hd => rfl); (case hg => rfl); (case hr => first | (go_simp; done) | (go_simp; rfl)); intro gb185 hg w4 hbox hb; have ⟨n0_, n2_⟩ := zV (w := w) hb hg (by repeat (first | (with_reducible first | exact HB.out | apply yA | apply yN | apply yD) | exact HB.out)); have n1_ := aK (hbox); have n3_ := n2_; clear HB; have HB := n0_; have BK185 := n1_; have GW185 := n2_; have GE185 := n3_; clear n0_ n1_ n2_ n3_; clear hb hbox hg; have hcz5_0 := zI BK185 0 rfl; have hcz5_1 := zI BK185 1 rfl; have hcz5_2 := zI BK185 2 rfl; have hcz5_3 := zI BK185 3 rfl; have hfz5_0 := zF BK185.out 0; have hfz5_1 := zF BK185.out 1; have hfz5_2 := zF BK185.out 2; have hfz5_3 := zF BK185.out 3) | ((with_reducible refine gate_callee (f := 18) rfl ?_); refine goesL_ (some 10) rfl rfl Tryz.func18 (by kernel_rfl) rfl #[.agg #[.string a0_0, .int .i64 a0_1, .int .i64 a0_2, .slice A0_3 l0_3.length c0_3]] rfl (by (try simp only [List.map_toArray, List.map_cons, List.map_nil]); first | done | rfl | (simp only [List.length_drop, List.length_take]; rfl)) ?_; (with_reducible refine (gangsawref14_Normal.calls k a0_0 a0_1 a0_2 _ _ l0_3 t186 t187 t188 t189 t192 _ ?side1 ?side2 A2.out).mono ?_); (case side1 => repeat (first | exact (Kd.C_below HR0_3.out HB.out) | (with_reducible refine Kd.C_alloc ?_ _) | (with_reducible refine Kd.C_drewN ?_ _) | (with_reducible refine Kd.C_drew ?_))); (case side2 => exact HC0_3.out); rintro e w6 ⟨v190, rfl, ho0, hb⟩; refine ⟨_, rfl, ?_⟩; have n0_ := aK (Kd.R_lower ho0 (yZ (by repeat (first | (with_reducible first | exact HB.out | apply yA | apply yN | apply yD | refine yS ?_ GE185.out) | exact HB.out)))); have n1_ := zG BK185 hb (fun h => by (with_reducible repeat (first | refine zN ?_ _ | refine zD ?_ | refine zA ?_ _)); exact h); have n2_ := aK (yT (by repeat (first | (with_reducible first | exact HB.out | apply yA | apply yN | apply yD | refine yS ?_ GE185.out) | exact HB.out)) hb); clear BK185; clear HB; have HO191 := n0_; have BK185 := n1_; have HB := n2_; clear n0_ n1_ n2_; (try clear hb); (try clear hb2); (try clear hk); (try clear hi); (try clear ho0)) | ((with_reducible refine gate_dst (N := 4) rfl ?_); refine box_event ?hg (N := 4) ?hd (cs := #[.string (⟨#[]⟩ : ByteArray), .int .i64 0, .int .i64 0, .slice none 0 0]) (t := 33) ?hr ?_; (case hd => rfl); (case hg => rfl); (case hr => first | (go_simp; done) | (go_simp; rfl)); intro gb193 hg w7 hbox hb; have n0_ := aK (Kd.R_below (by (with_reducible repeat (first | apply Kd.R_alloc | apply Kd.R_drewN | apply Kd.R_drew)); exact HO191.out) hb); have n1_ := zG BK185 hb (fun h => by (with_reducible repeat (first | refine zN ?_ _ | refine zD ?_ | refine zA ?_ _)); exact h); have ⟨n2_, n4_⟩ := zV (w := w) hb hg (by repeat (first | (with_reducible first | exact HB.out | apply yA | apply yN | apply yD | refine yS ?_ GE185.out) | exact HB.out)); have n3_ := aK (hbox); have n5_ := n4_; have n6_ := aK ((by rw [hg]; exact Nat.ne_of_lt (blk_lt (g := gb185) (o := .cells #[.string a0_0, .int .i64 a0_1, .int .i64 a0_2, .slice A0_3 l0_3.length c0_3] 33 (0, 0)) (by (with_reducible repeat (first | refine zN ?_ _ | refine zD ?_ | refine zA ?_ _)); exact BK185.out)) : gb185 ≠ gb193)); have n7_ := aK ((by rw [hg]; exact Nat.ne_of_gt (blk_lt (g := gb185) (o := .cells #[.string a0_0, .int .i64 a0_1, .int .i64 a0_2, .slice A0_3 l0_3.length c0_3] 33 (0, 0)) (by (with_reducible repeat (first | refine zN ?_ _ | refine zD ?_ | refine zA ?_ _)); exact BK185.out)) : gb193 ≠ gb185)); clear HO191; clear BK185; clear HB; have HO191 := n0_; have BK185 := n1_; have HB := n2_; have BK193 := n3_; have GW193 := n4_; have GE193 := n5_; have NB185_193 := n6_; have NB193_185 := n7_; clear n0_ n1_ n2_ n3_ n4_ n5_ n6_ n7_; clear hb hbox hg; have hnb8 := NB193_185.out; have hnc8 := NB185_193.out; have hcz9_0 := zI BK193 0 rfl; have hcz9_1 := zI BK193 1 rfl; have hcz9_2 := zI BK193 2 rfl; have hcz9_3 := zI BK193 3 rfl; have hfz9_0 := zF BK193.out 0; have hfz9_1 := zF BK193.out 1; have hfz9_2 := zF BK193.out 2; have hfz9_3 := zF BK193.out 3; obtain ⟨Ao10, co10, eo10⟩ := Kd.R_slice HO191.out; subst eo10))
  go_loopg [6, 7] k (fun kq v6 v7 w' => ∃ (x6_1 : List (S46)) (x7_1 : Int), v7 = .int .i64 x7_1 ∧ Aside0 (gangsawref14_Evidence.l0 kq x6_1 x7_1 a0_0 a0_1 a0_2 l0_3 t186 t187 t188 t189 = some (r1, r2)) ∧ Aside0 (kq ≤ k) ∧ Aside0 (Kd.R k46 46 w' w.heap.size (fun _ => True) v6 x6_1) ∧ Aside0 (Kd.R k48 48 w' w.heap.size (fun _ => True) (.slice Ao10 t189.length co10) t189) ∧ Aside0 (w'.heap[gb185]? = some (.cells #[.string a0_0, .int .i64 a0_1, .int .i64 a0_2, (.slice A0_3 l0_3.length c0_3)] 33 (0, 0))) ∧ Aside0 (w'.heap[gb193]? = some (.cells #[.string t186, .int .i64 t187, .int .i64 t188, (.slice Ao10 t189.length co10)] 33 (0, 0))) ∧ Aside0 (Below w.heap.size w w'))
  case atStart => exact ⟨(([] : List (S46))), (0), (by first | rfl | (simp; done) | (simp [*]; done)), H', ⟨Nat.le_refl _⟩, ⟨by first | exact Kd.R_nil _ _ _ _ _ | exact Kd.N_nil _ _ _ _ _ | exact Kd.V_nil _ _ _ _ _ | exact Kd.Q_nil _ _ _ _ _ | exact Kd.S_nil _ _ _ _ _⟩, ⟨by (with_reducible repeat (first | apply Kd.R_alloc | apply Kd.R_drewN | apply Kd.R_drew)); exact Kd.R_mono (Kd.R_far (p := ⟨gb193, 3, none⟩) (Kd.R_far (p := ⟨gb193, 2, none⟩) (Kd.R_far (p := ⟨gb193, 1, none⟩) (Kd.R_far (p := ⟨gb193, 0, none⟩) (Kd.R_types HO191.out BK193.out (by decide)) (fun _ hk => hk.2) (.string t186)) (fun _ hk => hk.2) (.int .i64 t187)) (fun _ hk => hk.2) (.int .i64 t188)) (fun _ hk => hk.2) (.slice Ao10 t189.length co10)) (fun _ hk => trivial)⟩, ⟨by (with_reducible repeat (first | refine zN ?_ _ | refine zD ?_ | refine zA ?_ _)); refine blk_far ?_ NB185_193.out _; (with_reducible repeat (first | refine zN ?_ _ | refine zD ?_ | refine zA ?_ _)); refine blk_far ?_ NB185_193.out _; (with_reducible repeat (first | refine zN ?_ _ | refine zD ?_ | refine zA ?_ _)); refine blk_far ?_ NB185_193.out _; (with_reducible repeat (first | refine zN ?_ _ | refine zD ?_ | refine zA ?_ _)); refine blk_far ?_ NB185_193.out _; (with_reducible repeat (first | refine zN ?_ _ | refine zD ?_ | refine zA ?_ _)); exact BK185.out⟩, ⟨by (with_reducible repeat (first | refine zN ?_ _ | refine zD ?_ | refine zA ?_ _)); refine blk_put (cs := #[.string t186, .int .i64 t187, .int .i64 t188, .slice none 0 0]) ?_ 3 _ rfl; (with_reducible repeat (first | refine zN ?_ _ | refine zD ?_ | refine zA ?_ _)); refine blk_put (cs := #[.string t186, .int .i64 t187, .int .i64 0, .slice none 0 0]) ?_ 2 _ rfl; (with_reducible repeat (first | refine zN ?_ _ | refine zD ?_ | refine zA ?_ _)); refine blk_put (cs := #[.string t186, .int .i64 0, .int .i64 0, .slice none 0 0]) ?_ 1 _ rfl; (with_reducible repeat (first | refine zN ?_ _ | refine zD ?_ | refine zA ?_ _)); refine blk_put (cs := #[.string (⟨#[]⟩ : ByteArray), .int .i64 0, .int .i64 0, .slice none 0 0]) ?_ 0 _ rfl; (with_reducible repeat (first | refine zN ?_ _ | refine zD ?_ | refine zA ?_ _)); exact BK193.out⟩, ⟨by repeat (first | (with_reducible first | exact HB.out | apply yA | apply yN | apply yD | refine yS ?_ GE185.out | refine yS ?_ GE193.out) | exact HB.out)⟩⟩
  case round =>
   clear H'
   try clear c1
   try clear c2
   try clear p2
   try clear c3
   try clear c3b0
   try clear c3b1
   try clear c8
   try clear hcz5_0
   try clear hcz5_1
   try clear hcz5_2
   try clear hcz5_3
   try clear hcz9_0
   try clear hcz9_1
   try clear hcz9_2
   try clear hcz9_3
   try clear hfz5_0
   try clear hfz5_1
   try clear hfz5_2
   try clear hfz5_3
   try clear hfz9_0
   try clear hfz9_1
   try clear hfz9_2
   try clear hfz9_3
   obtain ⟨x6_1, x7_1, rfl, HA, HK1, HO_6, HO_194003, BK185, BK193, HB⟩ := hrel
   cases gk with
   | zero => exact absurd HA.out (by simp [gangsawref14_Evidence.l0])
   | succ k1 =>
    have H := HA.out
    clear HA
    simp only [gangsawref14_Evidence.l0] at H
    by_cases c11 : x7_1 < (t189.length : Int)
    ·rw [if_pos c11] at H
     have c11b0 : decide (x7_1 < (t189.length : Int)) = true := decide_eq_true c11
     clear c11
     by_cases c12 : 0 ≤ x7_1
     ·rw [if_pos c12] at H
      have c12b0 : decide (0 ≤ x7_1) = true := decide_eq_true c12
      clear c12
      replace H := Option.bind_eq_some_iff.mp H
      obtain ⟨⟨t196, t197, t198, t199, t200, t201⟩, A130, H⟩ := H
      replace H : (if x6_1.length < 1954687338268 then (gangsawref14_Evidence.l0 k1 (x6_1 ++ [(⟨a0_0, (⟨(⟨t196, t197, t198⟩ : S24), (⟨t199, t200, t201⟩ : S24)⟩ : S26), (rd_T48 t189 x7_1).f2⟩ : S46)]) (wrap64 (x7_1 + 1)) a0_0 a0_1 a0_2 l0_3 t186 t187 t188 t189) else (none)) = some (r1, r2) := H
      have A13 := aK A130
      clear A130
      by_cases c14 : x6_1.length < 1954687338268
      ·rw [if_pos c14] at H
       have LMc14 := aK c14
       clear c14
       obtain ⟨y203, hy203⟩ : ∃ y_ : List (S46), y_ = (x6_1 ++ [(⟨a0_0, (⟨(⟨t196, t197, t198⟩ : S24), (⟨t199, t200, t201⟩ : S24)⟩ : S26), (rd_T48 t189 x7_1).f2⟩ : S46)]) := ⟨_, rfl⟩
       replace H : (gangsawref14_Evidence.l0 k1 y203 (wrap64 (x7_1 + 1)) a0_0 a0_1 a0_2 l0_3 t186 t187 t188 t189) = some (r1, r2) := by first | (rw [hy203]; with_reducible exact H) | (have H2_ := (Option.bind_some _ _).symm.trans H; rw [hy203]; with_reducible exact H2_) | (have H2_ := (Option.bind_some _ _).symm.trans H; with_reducible exact H2_) | with_reducible exact H | (rw [hy203]; exact H) | exact H
       have Ny203 := aK hy203
       clear hy203
       have H' := aK H
       clear H
       have hnb15 := NB193_185.out
       have hnc15 := NB185_193.out
       have hcz16_0 := zI BK193 0 rfl
       have hcz16_1 := zI BK193 1 rfl
       have hcz16_2 := zI BK193 2 rfl
       have hcz16_3 := zI BK193 3 rfl
       have hfz16_0 := zF BK193.out 0
       have hfz16_1 := zF BK193.out 1
       have hfz16_2 := zF BK193.out 2
       have hfz16_3 := zF BK193.out 3
       try go_wp2
       have n0_ := aK (Kd.R_drew HO_6.out)
       have n1_ := aK (Kd.R_drew HO_194003.out)
       have n2_ := aK (zD BK185.out)
       have n3_ := aK (zD BK193.out)
       have n4_ := aK (yD HB.out)
       clear HO_6
       clear HO_194003
       clear BK185
       clear BK193
       clear HB
       have HO_6 := n0_
       have HO_194003 := n1_
       have BK185 := n2_
       have BK193 := n3_
       have HB := n4_
       clear n0_ n1_ n2_ n3_ n4_
       have p194 : 0 ≤ (x7_1 : Int) := of_decide_eq_true (by first | (with_reducible assumption) | assumption)
       have q194 : x7_1 < (t189.length : Int) := of_decide_eq_true (by first | (with_reducible assumption) | assumption)
       obtain ⟨ad194, e194, hx194_0, hx194_1, hx194_2⟩ := at_T48 (Kd.R_reads' HO_194003.out).2.2 x7_1 p194 q194
       cases e194
       replace p194 := eq_true p194
       replace q194 := eq_true q194
       have p195 : 0 ≤ (x7_1 : Int) := of_decide_eq_true (by first | (with_reducible assumption) | assumption)
       have q195 : x7_1 < (t189.length : Int) := of_decide_eq_true (by first | (with_reducible assumption) | assumption)
       obtain ⟨ad195, e195, hx195_0, hx195_1, hx195_2⟩ := at_T48 (Kd.R_reads' HO_194003.out).2.2 x7_1 p195 q195
       obtain rfl : ad194 = ad195 := (by injection e195)
       replace p195 := eq_true p195
       replace q195 := eq_true q195
       have p202 : 0 ≤ (x7_1 : Int) := of_decide_eq_true (by first | (with_reducible assumption) | assumption)
       have q202 : x7_1 < (t189.length : Int) := of_decide_eq_true (by first | (with_reducible assumption) | assumption)
       obtain ⟨ad202, e202, hx202_0, hx202_1, hx202_2⟩ := at_T48 (Kd.R_reads' HO_194003.out).2.2 x7_1 p202 q202
       obtain rfl : ad194 = ad202 := (by injection e202)
       replace p202 := eq_true p202
       replace q202 := eq_true q202
       refine start_ (n := 28) (S := fun w' => w'.cell? ⟨gb185, 0, none⟩ = some (.string a0_0) ∧ w'.cell? ⟨gb185, 1, none⟩ = some (.int .i64 a0_1) ∧ w'.cell? ⟨gb185, 2, none⟩ = some (.int .i64 a0_2) ∧ w'.cell? ⟨gb185, 3, none⟩ = some (.slice A0_3 l0_3.length c0_3) ∧ w'.cell? ⟨gb193, 0, none⟩ = some (.string t186) ∧ w'.cell? ⟨gb193, 1, none⟩ = some (.int .i64 t187) ∧ w'.cell? ⟨gb193, 2, none⟩ = some (.int .i64 t188) ∧ w'.cell? ⟨gb193, 3, none⟩ = some (.slice (some ad194) t189.length co10) ∧ w'.cell? (ad194.add ((x7_1).toNat * 3)) = some (.int .i64 ((rd_T48 t189 x7_1).f0)) ∧ w'.cell? ⟨(ad194.add ((x7_1).toNat * 3)).block, (ad194.add ((x7_1).toNat * 3)).off + 1, none⟩ = some (.int .i64 ((rd_T48 t189 x7_1).f1)) ∧ w'.cell? ⟨(ad194.add ((x7_1).toNat * 3)).block, (ad194.add ((x7_1).toNat * 3)).off + 2, none⟩ = some (.int .i64 ((rd_T48 t189 x7_1).f2)) ∧ w'.cell? (ad194.add ((x7_1).toNat * 3)) = some (.int .i64 ((rd_T48 t189 x7_1).f0)) ∧ w'.cell? ⟨(ad194.add ((x7_1).toNat * 3)).block, (ad194.add ((x7_1).toNat * 3)).off + 1, none⟩ = some (.int .i64 ((rd_T48 t189 x7_1).f1)) ∧ w'.cell? ⟨(ad194.add ((x7_1).toNat * 3)).block, (ad194.add ((x7_1).toNat * 3)).off + 2, none⟩ = some (.int .i64 ((rd_T48 t189 x7_1).f2)) ∧ w'.cell? (ad194.add ((x7_1).toNat * 3)) = some (.int .i64 ((rd_T48 t189 x7_1).f0)) ∧ w'.cell? ⟨(ad194.add ((x7_1).toNat * 3)).block, (ad194.add ((x7_1).toNat * 3)).off + 1, none⟩ = some (.int .i64 ((rd_T48 t189 x7_1).f1)) ∧ w'.cell? ⟨(ad194.add ((x7_1).toNat * 3)).block, (ad194.add ((x7_1).toNat * 3)).off + 2, none⟩ = some (.int .i64 ((rd_T48 t189 x7_1).f2))) (ds := [25, 26]) #[false, false, false, false, false, false, false, false, false, false, false, false, false, false, false, false, false, false, false, false, false, false, false, false, false, false, false, false] (by kernel_rfl) rfl rfl ⟨(zC BK185.out 0).trans rfl, (zC BK185.out 1).trans rfl, (zC BK185.out 2).trans rfl, (zC BK185.out 3).trans rfl, (zC BK193.out 0).trans rfl, (zC BK193.out 1).trans rfl, (zC BK193.out 2).trans rfl, (zC BK193.out 3).trans rfl, hx194_0, hx194_1, hx194_2, hx195_0, hx195_1, hx195_2, hx202_0, hx202_1, hx202_2⟩ (fun hHeld => ?_); refine with_tabW gangsawref14_Evidence.tab8 gangsawref14_Evidence.bits8 (fun HT_ HW_ => ?_)
       generalize wr.drew = w17 at HO_6 HO_194003 BK185 BK193 HB hx194_0 hx194_1 hx194_2 hx195_0 hx195_1 hx195_2 hx202_0 hx202_1 hx202_2 hHeld ⊢
       refine pure_ (i := 0) (N := some 23) (v := ?_) (a' := ?_) #[true, false, false, false, false, false, false, false, false, false, false, false, false, false, false, false, false, false, false, false, false, false, false, false, false, false, false, false] rfl rfl (any_of HT_.out (by kernel_rfl)) (fun _ _ _ h => h) (Or.inl ⟨by rfl, ?_⟩) ?_ ?_
       rotate_left
       ·intro w'
        go_simp
        with_reducible rfl
       rotate_left
       ·simp only [Act.put, sA, sZ, sS, i64_w, i32_w]
        rfl
       refine pure_ (i := 1) (N := some 24) (v := ?_) (a' := ?_) #[true, true, false, false, false, false, false, false, false, false, false, false, false, false, false, false, false, false, false, false, false, false, false, false, false, false, false, false] rfl rfl (any_of HT_.out (by kernel_rfl)) (fun _ _ _ h => h) (Or.inl ⟨by rfl, ?_⟩) ?_ ?_
       rotate_left
       ·intro w'
        go_simp
        with_reducible rfl
       rotate_left
       ·simp only [Act.put, sA, sZ, sS, i64_w, i32_w]
        rfl
       refine pure_ (i := 3) (N := some 26) (v := ?_) (a' := ?_) #[true, true, false, true, false, false, false, false, false, false, false, false, false, false, false, false, false, false, false, false, false, false, false, false, false, false, false, false] rfl rfl (any_of HT_.out (by kernel_rfl)) (fun _ _ _ h => h) (Or.inl ⟨by rfl, ?_⟩) ?_ ?_
       rotate_left
       ·intro w'
        go_simp
        with_reducible rfl
       rotate_left
       ·simp only [Act.put, sA, sZ, sS, i64_w, i32_w]
        rfl
       refine pure_ (i := 5) (N := some 28) (v := ?_) (a' := ?_) #[true, true, false, true, false, true, false, false, false, false, false, false, false, false, false, false, false, false, false, false, false, false, false, false, false, false, false, false] rfl rfl (any_of HT_.out (by kernel_rfl)) (fun _ _ _ h => h) (Or.inl ⟨by rfl, ?_⟩) ?_ ?_
       rotate_left
       ·intro w'
        go_simp
        with_reducible rfl
       rotate_left
       ·simp only [Act.put, sA, sZ, sS, i64_w, i32_w]
        rfl
       refine pure_ (i := 7) (N := some 30) (v := ?_) (a' := ?_) #[true, true, false, true, false, true, false, true, false, false, false, false, false, false, false, false, false, false, false, false, false, false, false, false, false, false, false, false] rfl rfl (any_of HT_.out (by kernel_rfl)) (fun _ _ _ h => h) (Or.inl ⟨by rfl, ?_⟩) ?_ ?_
       rotate_left
       ·intro w'
        go_simp
        with_reducible rfl
       rotate_left
       ·simp only [Act.put, sA, sZ, sS, i64_w, i32_w]
        rfl
       refine pure_ (i := 11) (N := some 34) (v := ?_) (a' := ?_) #[true, true, false, true, false, true, false, true, false, false, false, true, false, false, false, false, false, false, false, false, false, false, false, false, false, false, false, false] rfl rfl (any_of HT_.out (by kernel_rfl)) (fun _ _ _ h => h) (Or.inl ⟨by rfl, ?_⟩) ?_ ?_
       rotate_left
       ·intro w'
        go_simp
        with_reducible rfl
       rotate_left
       ·simp only [Act.put, sA, sZ, sS, i64_w, i32_w]
        rfl
       refine pure_ (i := 13) (N := some 36) (v := ?_) (a' := ?_) #[true, true, false, true, false, true, false, true, false, false, false, true, false, true, false, false, false, false, false, false, false, false, false, false, false, false, false, false] rfl rfl (any_of HT_.out (by kernel_rfl)) (fun _ _ _ h => h) (Or.inl ⟨by rfl, ?_⟩) ?_ ?_
       rotate_left
       ·intro w'
        go_simp
        with_reducible rfl
       rotate_left
       ·simp only [Act.put, sA, sZ, sS, i64_w, i32_w]
        rfl
       refine pure_ (i := 18) (N := some 41) (v := ?_) (a' := ?_) #[true, true, false, true, false, true, false, true, false, false, false, true, false, true, false, false, false, false, true, false, false, false, false, false, false, false, false, false] rfl rfl (any_of HT_.out (by kernel_rfl)) (fun _ _ _ h => h) (Or.inl ⟨by rfl, ?_⟩) ?_ ?_
       rotate_left
       ·intro w'
        go_simp
        with_reducible rfl
       rotate_left
       ·simp only [Act.put, sA, sZ, sS, i64_w, i32_w]
        rfl
       refine pure_ (i := 20) (N := some 43) (v := ?_) (a' := ?_) #[true, true, false, true, false, true, false, true, false, false, false, true, false, true, false, false, false, false, true, false, true, false, false, false, false, false, false, false] rfl rfl (any_of HT_.out (by kernel_rfl)) (fun _ _ _ h => h) (Or.inl ⟨by rfl, ?_⟩) ?_ ?_
       rotate_left
       ·intro w'
        go_simp
        with_reducible rfl
       rotate_left
       ·simp only [Act.put, sA, sZ, sS, i64_w, i32_w]
        rfl
       refine take_ (i := 2) (N := some 25) (v := ?_) (a' := ?_) #[true, true, true, true, false, true, false, true, false, false, false, true, false, true, false, false, false, false, true, false, true, false, false, false, false, false, false, false] rfl rfl (take_ofW HT_.out HW_.out (by kernel_rfl)) (fun _ _ _ h => h) (Or.inl ⟨by rfl, ?_⟩) hHeld ?_ ?_
       rotate_left
       ·rintro w' ⟨s0, s1, s2, s3, s4, s5, s6, s7, s8, s9, s10, s11, s12, s13, s14, s15, s16⟩
        go_simp
        with_reducible rfl
       rotate_left
       ·simp only [Act.put, sA, sZ, sS, i64_w, i32_w]
        rfl
       refine take_ (i := 4) (N := some 27) (v := ?_) (a' := ?_) #[true, true, true, true, true, true, false, true, false, false, false, true, false, true, false, false, false, false, true, false, true, false, false, false, false, false, false, false] rfl rfl (take_ofW HT_.out HW_.out (by kernel_rfl)) (fun _ _ _ h => h) (Or.inl ⟨by rfl, ?_⟩) hHeld ?_ ?_
       rotate_left
       ·rintro w' ⟨s0, s1, s2, s3, s4, s5, s6, s7, s8, s9, s10, s11, s12, s13, s14, s15, s16⟩
        go_simp
        with_reducible rfl
       rotate_left
       ·simp only [Act.put, sA, sZ, sS, i64_w, i32_w]
        rfl
       refine take_ (i := 6) (N := some 29) (v := ?_) (a' := ?_) #[true, true, true, true, true, true, true, true, false, false, false, true, false, true, false, false, false, false, true, false, true, false, false, false, false, false, false, false] rfl rfl (take_ofW HT_.out HW_.out (by kernel_rfl)) (fun _ _ _ h => h) (Or.inl ⟨by rfl, ?_⟩) hHeld ?_ ?_
       rotate_left
       ·rintro w' ⟨s0, s1, s2, s3, s4, s5, s6, s7, s8, s9, s10, s11, s12, s13, s14, s15, s16⟩
        go_simp
        with_reducible rfl
       rotate_left
       ·simp only [Act.put, sA, sZ, sS, i64_w, i32_w]
        rfl
       refine pure_ (i := 8) (N := some 31) (v := ?_) (a' := ?_) #[true, true, true, true, true, true, true, true, true, false, false, true, false, true, false, false, false, false, true, false, true, false, false, false, false, false, false, false] rfl rfl (any_of HT_.out (by kernel_rfl)) (fun _ _ _ h => h) (Or.inl ⟨by rfl, ?_⟩) ?_ ?_
       rotate_left
       ·intro w'
        go_simp
        with_reducible rfl
       rotate_left
       ·simp only [Act.put, sA, sZ, sS, i64_w, i32_w]
        rfl
       refine pure_ (i := 9) (N := some 32) (v := ?_) (a' := ?_) #[true, true, true, true, true, true, true, true, true, true, false, true, false, true, false, false, false, false, true, false, true, false, false, false, false, false, false, false] rfl rfl (any_of HT_.out (by kernel_rfl)) (fun _ _ _ h => h) (Or.inl ⟨by rfl, ?_⟩) ?_ ?_
       rotate_left
       ·intro w'
        go_simp
        with_reducible rfl
       rotate_left
       ·simp only [Act.put, sA, sZ, sS, i64_w, i32_w]
        rfl
       refine take_ (i := 10) (N := some 33) (v := ?_) (a' := ?_) #[true, true, true, true, true, true, true, true, true, true, true, true, false, true, false, false, false, false, true, false, true, false, false, false, false, false, false, false] rfl rfl (take_ofW HT_.out HW_.out (by kernel_rfl)) (fun _ _ _ h => h) (Or.inl ⟨by rfl, ?_⟩) hHeld ?_ ?_
       rotate_left
       ·rintro w' ⟨s0, s1, s2, s3, s4, s5, s6, s7, s8, s9, s10, s11, s12, s13, s14, s15, s16⟩
        go_simp
        with_reducible rfl
       rotate_left
       ·simp only [Act.put, sA, sZ, sS, i64_w, i32_w]
        rfl
       refine take_ (i := 12) (N := some 35) (v := ?_) (a' := ?_) #[true, true, true, true, true, true, true, true, true, true, true, true, true, true, false, false, false, false, true, false, true, false, false, false, false, false, false, false] rfl rfl (take_ofW HT_.out HW_.out (by kernel_rfl)) (fun _ _ _ h => h) (Or.inl ⟨by rfl, ?_⟩) hHeld ?_ ?_
       rotate_left
       ·rintro w' ⟨s0, s1, s2, s3, s4, s5, s6, s7, s8, s9, s10, s11, s12, s13, s14, s15, s16⟩
        go_simp
        with_reducible rfl
       rotate_left
       ·simp only [Act.put, sA, sZ, sS, i64_w, i32_w]
        rfl
       refine pure_ (i := 14) (N := some 37) (v := ?_) (a' := ?_) #[true, true, true, true, true, true, true, true, true, true, true, true, true, true, true, false, false, false, true, false, true, false, false, false, false, false, false, false] rfl rfl (any_of HT_.out (by kernel_rfl)) (fun _ _ _ h => h) (Or.inl ⟨by rfl, ?_⟩) ?_ ?_
       rotate_left
       ·intro w'
        go_simp
        with_reducible rfl
       rotate_left
       ·simp only [Act.put, sA, sZ, sS, i64_w, i32_w]
        rfl
       refine pure_ (i := 15) (N := some 38) (v := ?_) (a' := ?_) #[true, true, true, true, true, true, true, true, true, true, true, true, true, true, true, true, false, false, true, false, true, false, false, false, false, false, false, false] rfl rfl (any_of HT_.out (by kernel_rfl)) (fun _ _ _ h => h) (Or.inl ⟨by rfl, ?_⟩) ?_ ?_
       rotate_left
       ·intro w'
        go_simp
        with_reducible rfl
       rotate_left
       ·simp only [Act.put, sA, sZ, sS, i64_w, i32_w]
        rfl
       refine take_ (i := 16) (N := some 39) (v := ?_) (a' := ?_) #[true, true, true, true, true, true, true, true, true, true, true, true, true, true, true, true, true, false, true, false, true, false, false, false, false, false, false, false] rfl rfl (take_ofW HT_.out HW_.out (by kernel_rfl)) (fun _ _ _ h => h) (Or.inl ⟨by rfl, ?_⟩) hHeld ?_ ?_
       rotate_left
       ·rintro w' ⟨s0, s1, s2, s3, s4, s5, s6, s7, s8, s9, s10, s11, s12, s13, s14, s15, s16⟩
        go_simp
        with_reducible rfl
       rotate_left
       ·simp only [Act.put, sA, sZ, sS, i64_w, i32_w]
        rfl
       refine take_ (i := 19) (N := some 42) (v := ?_) (a' := ?_) #[true, true, true, true, true, true, true, true, true, true, true, true, true, true, true, true, true, false, true, true, true, false, false, false, false, false, false, false] rfl rfl (take_ofW HT_.out HW_.out (by kernel_rfl)) (fun _ _ _ h => h) (Or.inl ⟨by rfl, ?_⟩) hHeld ?_ ?_
       rotate_left
       ·rintro w' ⟨s0, s1, s2, s3, s4, s5, s6, s7, s8, s9, s10, s11, s12, s13, s14, s15, s16⟩
        go_simp
        with_reducible rfl
       rotate_left
       ·simp only [Act.put, sA, sZ, sS, i64_w, i32_w]
        rfl
       refine pure_ (i := 21) (N := some 44) (v := ?_) (a' := ?_) #[true, true, true, true, true, true, true, true, true, true, true, true, true, true, true, true, true, false, true, true, true, true, false, false, false, false, false, false] rfl rfl (any_of HT_.out (by kernel_rfl)) (fun _ _ _ h => h) (Or.inl ⟨by rfl, ?_⟩) ?_ ?_
       rotate_left
       ·intro w'
        go_simp
        with_reducible rfl
       rotate_left
       ·simp only [Act.put, sA, sZ, sS, i64_w, i32_w]
        rfl
       refine pure_ (i := 22) (N := some 45) (v := ?_) (a' := ?_) #[true, true, true, true, true, true, true, true, true, true, true, true, true, true, true, true, true, false, true, true, true, true, true, false, false, false, false, false] rfl rfl (any_of HT_.out (by kernel_rfl)) (fun _ _ _ h => h) (Or.inl ⟨by rfl, ?_⟩) ?_ ?_
       rotate_left
       ·intro w'
        go_simp
        with_reducible rfl
       rotate_left
       ·simp only [Act.put, sA, sZ, sS, i64_w, i32_w]
        rfl
       refine take_ (i := 23) (N := some 46) (v := ?_) (a' := ?_) #[true, true, true, true, true, true, true, true, true, true, true, true, true, true, true, true, true, false, true, true, true, true, true, true, false, false, false, false] rfl rfl (take_ofW HT_.out HW_.out (by kernel_rfl)) (fun _ _ _ h => h) (Or.inl ⟨by rfl, ?_⟩) hHeld ?_ ?_
       rotate_left
       ·rintro w' ⟨s0, s1, s2, s3, s4, s5, s6, s7, s8, s9, s10, s11, s12, s13, s14, s15, s16⟩
        go_simp
        with_reducible rfl
       rotate_left
       ·simp only [Act.put, sA, sZ, sS, i64_w, i32_w]
        rfl
       refine one_ (i := 17) (N := some 40) #[true, true, true, true, true, true, true, true, true, true, true, true, true, true, true, true, true, true, true, true, true, true, true, true, false, false, false, false] rfl rfl (one_of HT_.out (by kernel_rfl)) (by decide) (fun K hK => ?_)
       refine goes_ Tryz.func51 (by kernel_rfl) rfl #[.agg #[.int .i64 a0_1, .int .i64 a0_2], .int .i64 ((rd_T48 t189 x7_1).f0), .int .i64 ((rd_T48 t189 x7_1).f1)] (by rfl) rfl rfl (by (try simp only [List.map_toArray, List.map_cons, List.map_nil]); first | done | rfl | (simp only [List.length_drop, List.length_take]; rfl)) ?_
       with_reducible refine (gangsawref14_column.calls a0_1 a0_2 ((rd_T48 t189 x7_1).f0) ((rd_T48 t189 x7_1).f1) t196 t197 t198 t199 t200 t201 _ A13.out).mono ?_
       rintro e w18 ⟨rfl, hb⟩
       have HS8_ := (hb.cell (World.block_lt_of_cell? _ _ (hHeld.2.2.2.2.2.2.2.2.1))).trans (hHeld.2.2.2.2.2.2.2.2.1)
       have HS9_ := (hb.cell (World.block_lt_of_cell? _ _ (hHeld.2.2.2.2.2.2.2.2.2.1))).trans (hHeld.2.2.2.2.2.2.2.2.2.1)
       have HS10_ := (hb.cell (World.block_lt_of_cell? _ _ (hHeld.2.2.2.2.2.2.2.2.2.2.1))).trans (hHeld.2.2.2.2.2.2.2.2.2.2.1)
       have HS11_ := (hb.cell (World.block_lt_of_cell? _ _ (hHeld.2.2.2.2.2.2.2.2.2.2.2.1))).trans (hHeld.2.2.2.2.2.2.2.2.2.2.2.1)
       have HS12_ := (hb.cell (World.block_lt_of_cell? _ _ (hHeld.2.2.2.2.2.2.2.2.2.2.2.2.1))).trans (hHeld.2.2.2.2.2.2.2.2.2.2.2.2.1)
       have HS13_ := (hb.cell (World.block_lt_of_cell? _ _ (hHeld.2.2.2.2.2.2.2.2.2.2.2.2.2.1))).trans (hHeld.2.2.2.2.2.2.2.2.2.2.2.2.2.1)
       have HS14_ := (hb.cell (World.block_lt_of_cell? _ _ (hHeld.2.2.2.2.2.2.2.2.2.2.2.2.2.2.1))).trans (hHeld.2.2.2.2.2.2.2.2.2.2.2.2.2.2.1)
       have HS15_ := (hb.cell (World.block_lt_of_cell? _ _ (hHeld.2.2.2.2.2.2.2.2.2.2.2.2.2.2.2.1))).trans (hHeld.2.2.2.2.2.2.2.2.2.2.2.2.2.2.2.1)
       have HS16_ := (hb.cell (World.block_lt_of_cell? _ _ (hHeld.2.2.2.2.2.2.2.2.2.2.2.2.2.2.2.2))).trans (hHeld.2.2.2.2.2.2.2.2.2.2.2.2.2.2.2.2)
       refine ⟨_, rfl, ?_⟩
       have n0_ := aK (Kd.R_below (by (with_reducible repeat (first | apply Kd.R_alloc | apply Kd.R_drewN | apply Kd.R_drew)); exact HO_6.out) hb)
       have n1_ := aK (Kd.R_below (by (with_reducible repeat (first | apply Kd.R_alloc | apply Kd.R_drewN | apply Kd.R_drew)); exact HO_194003.out) hb)
       have n2_ := zG BK185 hb (fun h => by (with_reducible repeat (first | refine zN ?_ _ | refine zD ?_ | refine zA ?_ _)); exact h)
       have n3_ := zG BK193 hb (fun h => by (with_reducible repeat (first | refine zN ?_ _ | refine zD ?_ | refine zA ?_ _)); exact h)
       have n4_ := aK (yT (by repeat (first | (with_reducible first | exact HB.out | apply yA | apply yN | apply yD | refine yS ?_ GE185.out | refine yS ?_ GE193.out) | exact HB.out)) hb)
       clear HO_6
       clear HO_194003
       clear BK185
       clear BK193
       clear HB
       have HO_6 := n0_
       have HO_194003 := n1_
       have BK185 := n2_
       have BK193 := n3_
       have HB := n4_
       clear n0_ n1_ n2_ n3_ n4_
       (try clear hb)
       (try clear hb2)
       (try clear hk)
       (try clear hi)
       refine hK.out _ _ ⟨(zC BK185.out 0).trans rfl, (zC BK185.out 1).trans rfl, (zC BK185.out 2).trans rfl, (zC BK185.out 3).trans rfl, (zC BK193.out 0).trans rfl, (zC BK193.out 1).trans rfl, (zC BK193.out 2).trans rfl, (zC BK193.out 3).trans rfl, HS8_, HS9_, HS10_, HS11_, HS12_, HS13_, HS14_, HS15_, HS16_⟩ (fun hHeld => ?_)
       clear hK K
       refine norm_ (a' := ?_) ?_ ?_
       rotate_left
       ·show Act.put _ (some 40) _ = _
        simp only [Act.put, sA, sZ, sS, i64_w, i32_w]
        rfl
       refine pure_ (i := 24) (N := some 47) (v := ?_) (a' := ?_) #[true, true, true, true, true, true, true, true, true, true, true, true, true, true, true, true, true, true, true, true, true, true, true, true, true, false, false, false] rfl rfl (any_of HT_.out (by kernel_rfl)) (fun _ _ _ h => h) (Or.inl ⟨by rfl, ?_⟩) ?_ ?_
       rotate_left
       ·intro w'
        go_simp
        with_reducible rfl
       rotate_left
       ·simp only [Act.put, sA, sZ, sS, i64_w, i32_w]
        rfl
       refine last_ (i := 25) (N := some 48) #[true, true, true, true, true, true, true, true, true, true, true, true, true, true, true, true, true, true, true, true, true, true, true, true, true, true, false, false] rfl rfl (one_of HT_.out (by kernel_rfl)) (by decide) (fun K hK => ?_)
       refine value_ (w1 := ?_) (v := ?_) (by rfl) rfl ?_ ?_
       rotate_left 2
       ·go_simp
        constructor
        ·rfl
        ·rfl
       refine hK.out _ _ ?_
       clear hK K
       refine norm_ (a' := ?_) ?_ ?_
       rotate_left
       ·show Act.put _ (some 48) _ = _
        simp only [Act.put, sA, sZ, sS, i64_w, i32_w]
        rfl
       refine last_ (i := 26) (N := some 49) #[true, true, true, true, true, true, true, true, true, true, true, true, true, true, true, true, true, true, true, true, true, true, true, true, true, true, true, false] rfl rfl (one_of HT_.out (by kernel_rfl)) (by decide) (fun K hK => ?_)
       refine Kd.R_append_step k46 (w0 := w) w.heap.size (by rfl) (.tmp 23) (.tmp 48) 40 46 (.agg #[(.string ⟨#[]⟩), (.int .i64 0), (.int .i64 0), (.int .i64 0), (.int .i64 0), (.int .i64 0), (.int .i64 0), (.int .i64 0)]) 72 rfl Tryz.underlying40 info46 rfl (by decide) (by omega) u6 x6_1 (⟨a0_0, (⟨(⟨t196, t197, t198⟩ : S24), (⟨t199, t200, t201⟩ : S24)⟩ : S26), (rd_T48 t189 x7_1).f2⟩ : S46) [.string a0_0, .int .i64 t196, .int .i64 t197, .int .i64 t198, .int .i64 t199, .int .i64 t200, .int .i64 t201, .int .i64 ((rd_T48 t189 x7_1).f2)] (fun _ => True) (fun _ => False) rfl rfl ?aP (fun _ hk => hk.elim) ?aF ?aO ?aB ?aS ?aL ?_
       (case aP => exact k46_mkM _ _ _ (⟨a0_0, (⟨(⟨t196, t197, t198⟩ : S24), (⟨t199, t200, t201⟩ : S24)⟩ : S26), (rd_T48 t189 x7_1).f2⟩ : S46))
       (case aB => exact (by repeat (first | (with_reducible first | exact HB.out | apply yA | apply yN | apply yD | refine yS ?_ GE185.out | refine yS ?_ GE193.out) | exact HB.out)))
       (case aF => exact (fun _ _ => trivial))
       (case aO => exact (by (with_reducible repeat (first | apply Kd.R_alloc | apply Kd.R_drewN | apply Kd.R_drew)); exact HO_6.out))
       (case aS => exact (yZ (by repeat (first | (with_reducible first | exact HB.out | apply yA | apply yN | apply yD | refine yS ?_ GE185.out | refine yS ?_ GE193.out) | exact HB.out))))
       (case aL => have := LMc14.out; omega)
       intro v204 w19 ho hb hg hat
       rw [← Ny203.out] at ho
       have n0_ := aK (Kd.R_over' (by (with_reducible repeat (first | apply Kd.R_alloc | apply Kd.R_drewN | apply Kd.R_drew)); exact HO_194003.out) (Kd.R_typed (by (with_reducible repeat (first | apply Kd.R_alloc | apply Kd.R_drewN | apply Kd.R_drew)); exact HO_6.out)) (by decide) hg)
       have n1_ := aK (blk_grown (g := gb185) (o := .cells #[.string a0_0, .int .i64 a0_1, .int .i64 a0_2, .slice A0_3 l0_3.length c0_3] 33 (0, 0)) (by (with_reducible repeat (first | refine zN ?_ _ | refine zD ?_ | refine zA ?_ _)); exact BK185.out) hg (Kd.R_ne HO_6.out BK185.out (by decide)))
       have n2_ := aK (blk_grown (g := gb193) (o := .cells #[.string t186, .int .i64 t187, .int .i64 t188, .slice (some ad194) t189.length co10] 33 (0, 0)) (by (with_reducible repeat (first | refine zN ?_ _ | refine zD ?_ | refine zA ?_ _)); exact BK193.out) hg (Kd.R_ne HO_6.out BK193.out (by decide)))
       have n3_ := aK (hb)
       have n4_ := aK (ho)
       clear HO_194003
       clear BK185
       clear BK193
       clear HB
       clear HO_6
       have HO_194003 := n0_
       have BK185 := n1_
       have BK193 := n2_
       have HB := n3_
       have HO205 := n4_
       clear n0_ n1_ n2_ n3_ n4_
       clear ho hb hg hat
       refine hK.out _ _ ?_
       clear hK K
       refine norm_ (a' := ?_) ?_ ?_
       rotate_left
       ·show Act.put _ (some 49) _ = _
        simp only [Act.put, sA, sZ, sS, i64_w, i32_w]
        rfl
       refine pure_ (i := 27) (N := some 6) (v := ?_) (a' := ?_) #[true, true, true, true, true, true, true, true, true, true, true, true, true, true, true, true, true, true, true, true, true, true, true, true, true, true, true, true] rfl rfl (any_of HT_.out (by kernel_rfl)) (fun _ _ _ h => h) (Or.inl ⟨by rfl, ?_⟩) ?_ ?_
       rotate_left
       ·intro w'
        go_simp
        with_reducible rfl
       rotate_left
       ·simp only [Act.put, sA, sZ, sS, i64_w, i32_w]
        rfl
       refine done_ (done_of HT_.out (by kernel_rfl)) ?_
       try go_wp2
       go_roundg k1
       case measure => have := HK1.out; omega
       case rel => exact ⟨(y203), (wrap64 (x7_1 + 1)), (by first | rfl | (simp; done) | (simp [*]; done)), H', ⟨by have := HK1.out; omega⟩, ⟨by (with_reducible repeat (first | apply Kd.R_alloc | apply Kd.R_drewN | apply Kd.R_drew)); exact HO205.out⟩, ⟨by (with_reducible repeat (first | apply Kd.R_alloc | apply Kd.R_drewN | apply Kd.R_drew)); exact HO_194003.out⟩, ⟨by (with_reducible repeat (first | refine zN ?_ _ | refine zD ?_ | refine zA ?_ _)); exact BK185.out⟩, ⟨by (with_reducible repeat (first | refine zN ?_ _ | refine zD ?_ | refine zA ?_ _)); exact BK193.out⟩, ⟨by repeat (first | (with_reducible first | exact HB.out | apply yA | apply yN | apply yD | refine yS ?_ GE185.out | refine yS ?_ GE193.out) | exact HB.out)⟩⟩
      ·rw [if_neg c14] at H
       exact absurd H (by simp)
     ·rw [if_neg c12] at H
      exact absurd H (by simp)
    ·rw [if_neg c11] at H
     have c11b0 : decide (x7_1 < (t189.length : Int)) = false := decide_eq_false c11
     clear c11
     simp only [Option.some.injEq, Prod.mk.injEq] at H
     obtain ⟨rfl, rfl⟩ := H
     have hnb20 := NB193_185.out
     have hnc20 := NB185_193.out
     have hcz21_0 := zI BK193 0 rfl
     have hcz21_1 := zI BK193 1 rfl
     have hcz21_2 := zI BK193 2 rfl
     have hcz21_3 := zI BK193 3 rfl
     have hfz21_0 := zF BK193.out 0
     have hfz21_1 := zF BK193.out 1
     have hfz21_2 := zF BK193.out 2
     have hfz21_3 := zF BK193.out 3
     go_wp2
     go_ret2
     exact ⟨_, by first | rfl | (simp [errW_none, errW_some] <;> rfl) | (simp [*, errW_none, errW_some] <;> rfl), by (with_reducible repeat (first | apply Kd.R_alloc | apply Kd.R_drewN | apply Kd.R_drew)); exact HO_6.out, by repeat (first | (with_reducible first | exact HB.out | apply yA | apply yN | apply yD | refine yS ?_ GE185.out | refine yS ?_ GE193.out) | exact HB.out)⟩
 ·rw [if_neg c3] at H
  have c3b0 : (t192 == 0) = false := beq_eq_false_iff_ne.mpr c3
  have c3b1 : (t192 != 0) = true := bne_iff_ne.mpr c3
  simp only [Option.some.injEq, Prod.mk.injEq] at H
  obtain ⟨rfl, rfl⟩ := H
  go_enter Tryz.func20, Tryz.ntmps20
  go_wp2_with (first | ((with_reducible refine gate_dst (N := 1) rfl ?_); refine box_event ?hg (N := 1) ?hd (cs := #[.string a0_0, .int .i64 a0_1, .int .i64 a0_2, .slice A0_3 l0_3.length c0_3]) (t := 33) ?hr ?_; (case hd => rfl); (case hg => rfl); (case hr => first | (go_simp; done) | (go_simp; rfl)); intro gb185 hg w22 hbox hb; have ⟨n0_, n2_⟩ := zV (w := w) hb hg (by repeat (first | (with_reducible first | exact HB.out | apply yA | apply yN | apply yD) | exact HB.out)); have n1_ := aK (hbox); have n3_ := n2_; clear HB; have HB := n0_; have BK185 := n1_; have GW185 := n2_; have GE185 := n3_; clear n0_ n1_ n2_ n3_; clear hb hbox hg; have hcz23_0 := zI BK185 0 rfl; have hcz23_1 := zI BK185 1 rfl; have hcz23_2 := zI BK185 2 rfl; have hcz23_3 := zI BK185 3 rfl; have hfz23_0 := zF BK185.out 0; have hfz23_1 := zF BK185.out 1; have hfz23_2 := zF BK185.out 2; have hfz23_3 := zF BK185.out 3) | ((with_reducible refine gate_callee (f := 18) rfl ?_); refine goesL_ (some 10) rfl rfl Tryz.func18 (by kernel_rfl) rfl #[.agg #[.string a0_0, .int .i64 a0_1, .int .i64 a0_2, .slice A0_3 l0_3.length c0_3]] rfl (by (try simp only [List.map_toArray, List.map_cons, List.map_nil]); first | done | rfl | (simp only [List.length_drop, List.length_take]; rfl)) ?_; (with_reducible refine (gangsawref14_Normal.calls k a0_0 a0_1 a0_2 _ _ l0_3 t186 t187 t188 t189 t192 _ ?side1 ?side2 A2.out).mono ?_); (case side1 => repeat (first | exact (Kd.C_below HR0_3.out HB.out) | (with_reducible refine Kd.C_alloc ?_ _) | (with_reducible refine Kd.C_drewN ?_ _) | (with_reducible refine Kd.C_drew ?_))); (case side2 => exact HC0_3.out); rintro e w24 ⟨v190, rfl, ho0, hb⟩; refine ⟨_, rfl, ?_⟩; have n0_ := aK (Kd.R_lower ho0 (yZ (by repeat (first | (with_reducible first | exact HB.out | apply yA | apply yN | apply yD | refine yS ?_ GE185.out) | exact HB.out)))); have n1_ := zG BK185 hb (fun h => by (with_reducible repeat (first | refine zN ?_ _ | refine zD ?_ | refine zA ?_ _)); exact h); have n2_ := aK (yT (by repeat (first | (with_reducible first | exact HB.out | apply yA | apply yN | apply yD | refine yS ?_ GE185.out) | exact HB.out)) hb); clear BK185; clear HB; have HO191 := n0_; have BK185 := n1_; have HB := n2_; clear n0_ n1_ n2_; (try clear hb); (try clear hb2); (try clear hk); (try clear hi); (try clear ho0)) | ((with_reducible refine gate_dst (N := 4) rfl ?_); refine box_event ?hg (N := 4) ?hd (cs := #[.string (⟨#[]⟩ : ByteArray), .int .i64 0, .int .i64 0, .slice none 0 0]) (t := 33) ?hr ?_; (case hd => rfl); (case hg => rfl); (case hr => first | (go_simp; done) | (go_simp; rfl)); intro gb193 hg w25 hbox hb; have n0_ := aK (Kd.R_below (by (with_reducible repeat (first | apply Kd.R_alloc | apply Kd.R_drewN | apply Kd.R_drew)); exact HO191.out) hb); have n1_ := zG BK185 hb (fun h => by (with_reducible repeat (first | refine zN ?_ _ | refine zD ?_ | refine zA ?_ _)); exact h); have ⟨n2_, n4_⟩ := zV (w := w) hb hg (by repeat (first | (with_reducible first | exact HB.out | apply yA | apply yN | apply yD | refine yS ?_ GE185.out) | exact HB.out)); have n3_ := aK (hbox); have n5_ := n4_; have n6_ := aK ((by rw [hg]; exact Nat.ne_of_lt (blk_lt (g := gb185) (o := .cells #[.string a0_0, .int .i64 a0_1, .int .i64 a0_2, .slice A0_3 l0_3.length c0_3] 33 (0, 0)) (by (with_reducible repeat (first | refine zN ?_ _ | refine zD ?_ | refine zA ?_ _)); exact BK185.out)) : gb185 ≠ gb193)); have n7_ := aK ((by rw [hg]; exact Nat.ne_of_gt (blk_lt (g := gb185) (o := .cells #[.string a0_0, .int .i64 a0_1, .int .i64 a0_2, .slice A0_3 l0_3.length c0_3] 33 (0, 0)) (by (with_reducible repeat (first | refine zN ?_ _ | refine zD ?_ | refine zA ?_ _)); exact BK185.out)) : gb193 ≠ gb185)); clear HO191; clear BK185; clear HB; have HO191 := n0_; have BK185 := n1_; have HB := n2_; have BK193 := n3_; have GW193 := n4_; have GE193 := n5_; have NB185_193 := n6_; have NB193_185 := n7_; clear n0_ n1_ n2_ n3_ n4_ n5_ n6_ n7_; clear hb hbox hg; have hnb26 := NB193_185.out; have hnc26 := NB185_193.out; have hcz27_0 := zI BK193 0 rfl; have hcz27_1 := zI BK193 1 rfl; have hcz27_2 := zI BK193 2 rfl; have hcz27_3 := zI BK193 3 rfl; have hfz27_0 := zF BK193.out 0; have hfz27_1 := zF BK193.out 1; have hfz27_2 := zF BK193.out 2; have hfz27_3 := zF BK193.out 3; obtain ⟨Ao28, co28, eo28⟩ := Kd.R_slice HO191.out; subst eo28))
  go_ret2
  exact ⟨_, by first | rfl | (simp [errW_none, errW_some] <;> rfl) | (simp [*, errW_none, errW_some] <;> rfl), by first | exact Kd.R_nil _ _ _ _ _ | exact Kd.N_nil _ _ _ _ _ | exact Kd.V_nil _ _ _ _ _ | exact Kd.Q_nil _ _ _ _ _ | exact Kd.S_nil _ _ _ _ _, by repeat (first | (with_reducible first | exact HB.out | apply yA | apply yN | apply yD | refine yS ?_ GE185.out | refine yS ?_ GE193.out) | exact HB.out)⟩

end Go.Proofs.YtfedmcehkpfciaaGreat.P
