/- What functions of the program return: each contract says so of one function, for every input at which its pure function yields. -/
import Derived.Test.YtfedmcehkpfciaaGreatPx0
import Derived.Test.YtfedmcehkpfciaaGreatPx7
import Derived.Test.YtfedmcehkpfciaaGreatPx9
import Derived.Test.YtfedmcehkpfciaaGreatPx10
namespace Go.Proofs.YtfedmcehkpfciaaGreat.P
open Go.RowKit Go.Proofs.YtfedmcehkpfciaaGreatW.PrintWords Go.Proofs.YtfedmcehkpfciaaGreatW.PrintLast Go.Proofs.YtfedmcehkpfciaaGreatW.PrintMore
attribute [local go_sem] max2_int min2_int max_two min_two max_three min_three max_four min_four   -- for this text's walks alone
set_option linter.unusedVariables false
set_option linter.unusedSimpArgs false

mutual
def gangsawref14_all.l0 : Nat → List (S33) → List Int → Int → Int → Int → Int → Int → Int → Int → Option (Int)
 | 0, _, _, _, _, _, _, _, _, _ => none
 | k + 1, x0, x5, x6, x139000, x139001, x139002, x139003, x139004, x139005 => if x6 < (x5.length : Int) then (gangsawref14_all.l1 k x0 x5 x6 0 x139000 x139001 x139002 x139003 x139004 x139005) else (gangsawref14_all.l2 k x0 0 x139000 x139001 x139002 x139003 x139004 x139005)
def gangsawref14_all.l1 : Nat → List (S33) → List Int → Int → Int → Int → Int → Int → Int → Int → Int → Option (Int)
 | 0, _, _, _, _, _, _, _, _, _, _ => none
 | k + 1, x0, x5, x6, x7, x139000, x139001, x139002, x139003, x139004, x139005 => if x7 < (x0.length : Int) then (if 0 ≤ x7 then (if 0 ≤ x6 then (if x6 < (x5.length : Int) then ((gangsawref14_part.f k ((rd_T33 x0 x7).f0) ((rd_T33 x0 x7).f1.f0) ((rd_T33 x0 x7).f1.f1) ((rd_T33 x0 x7).f2) (rd x5 x6)).bind fun t144 => (if t144 = true then (some (rd x5 x6)) else (gangsawref14_all.l1 k x0 x5 x6 (wrap64 (x7 + 1)) x139000 x139001 x139002 x139003 x139004 x139005))) else (none)) else (none)) else (none)) else (gangsawref14_all.l0 k x0 x5 (wrap64 (x6 + 1)) x139000 x139001 x139002 x139003 x139004 x139005)
def gangsawref14_all.l2 : Nat → List (S33) → Int → Int → Int → Int → Int → Int → Int → Option (Int)
 | 0, _, _, _, _, _, _, _, _ => none
 | k + 1, x0, x8, x139000, x139001, x139002, x139003, x139004, x139005 => if x8 < (x0.length : Int) then (if 0 ≤ x8 then ((gangsawref14_within.f k ((rd_T33 x0 x8).f0) ((rd_T33 x0 x8).f1.f0) ((rd_T33 x0 x8).f1.f1) ((rd_T33 x0 x8).f2) x139000 x139001 x139002 x139003 x139004 x139005).bind fun t147 => (if t147 = true then (gangsawref14_all.l2 k x0 (wrap64 (x8 + 1)) x139000 x139001 x139002 x139003 x139004 x139005) else (some 12))) else (none)) else (gangsawref14_all.l3 k x0 0)
def gangsawref14_all.l3 : Nat → List (S33) → Int → Option (Int)
 | 0, _, _ => none
 | k + 1, x0, x9 => if x9 < (x0.length : Int) then (if 0 ≤ x9 then ((gangsawref14_stacked.f k ((rd_T33 x0 x9).f0) ((rd_T33 x0 x9).f1.f0) ((rd_T33 x0 x9).f1.f1) ((rd_T33 x0 x9).f2)).bind fun t149 => (if t149 = true then (gangsawref14_all.l3 k x0 (wrap64 (x9 + 1))) else (some 11))) else (none)) else (some 0)
end
def gangsawref14_all.f (k : Nat) (l0 : List (S33)) (a1_0 : Int) (a1_1 : Int) (a1_2 : Int) (a1_3 : Int) (a1_4 : Int) (a1_5 : Int) : Option (Int) := gangsawref14_all.l0 k l0 (([4, 7, 1] : List Int)) 0 a1_0 a1_1 a1_2 a1_3 a1_4 a1_5
theorem gangsawref14_all.mono_l : ∀ k, (∀ y0 y1 y2 y3 y4 y5 y6 y7 y8, LeO (gangsawref14_all.l0 k y0 y1 y2 y3 y4 y5 y6 y7 y8) (gangsawref14_all.l0 (k + 1) y0 y1 y2 y3 y4 y5 y6 y7 y8)) ∧ (∀ y0 y1 y2 y3 y4 y5 y6 y7 y8 y9, LeO (gangsawref14_all.l1 k y0 y1 y2 y3 y4 y5 y6 y7 y8 y9) (gangsawref14_all.l1 (k + 1) y0 y1 y2 y3 y4 y5 y6 y7 y8 y9)) ∧ (∀ y0 y1 y2 y3 y4 y5 y6 y7, LeO (gangsawref14_all.l2 k y0 y1 y2 y3 y4 y5 y6 y7) (gangsawref14_all.l2 (k + 1) y0 y1 y2 y3 y4 y5 y6 y7)) ∧ (∀ y0 y1, LeO (gangsawref14_all.l3 k y0 y1) (gangsawref14_all.l3 (k + 1) y0 y1))
 | 0 => ⟨fun _ _ _ _ _ _ _ _ _ r h => by simp [gangsawref14_all.l0] at h, fun _ _ _ _ _ _ _ _ _ _ r h => by simp [gangsawref14_all.l1] at h, fun _ _ _ _ _ _ _ _ r h => by simp [gangsawref14_all.l2] at h, fun _ _ r h => by simp [gangsawref14_all.l3] at h⟩
 | k + 1 => by
  obtain ⟨ih0, ih1, ih2, ih3⟩ := gangsawref14_all.mono_l k
  refine ⟨?_, ?_, ?_, ?_⟩
  ·intro y0 y1 y2 y3 y4 y5 y6 y7 y8
   unfold gangsawref14_all.l0
   repeat' first
   | (with_reducible exact ih0 _ _ _ _ _ _ _ _ _)
   | (with_reducible exact ih1 _ _ _ _ _ _ _ _ _ _)
   | (with_reducible exact ih2 _ _ _ _ _ _ _ _)
   | (with_reducible exact ih3 _ _)
   | (with_reducible exact gangsawref14_part.mono _ _ _ _ _ _)
   | (with_reducible exact gangsawref14_stacked.mono _ _ _ _ _)
   | (with_reducible exact gangsawref14_within.mono _ _ _ _ _ _ _ _ _ _ _)
   | (with_reducible refine contains3.mono2 (fun x_ => ?_))
   | (with_reducible refine contains33.mono2 (fun x_ => ?_))
   | (with_reducible refine contains48.mono2 (fun x_ => ?_))
   | (with_reducible refine contains9.mono2 (fun x_ => ?_))
   | (with_reducible refine index3.mono2 (fun x_ => ?_))
   | (with_reducible refine index33.mono2 (fun x_ => ?_))
   | (with_reducible refine index48.mono2 (fun x_ => ?_))
   | (with_reducible refine index9.mono2 (fun x_ => ?_))
   | (with_reducible exact LeO.refl _)
   | (with_reducible exact LeO.none _)
   | (with_reducible refine LeO.ite ?_ ?_)
   | (with_reducible refine LeO.bind ?_ (fun _ => ?_))
   | exact ih0 _ _ _ _ _ _ _ _ _
   | exact ih1 _ _ _ _ _ _ _ _ _ _
   | exact ih2 _ _ _ _ _ _ _ _
   | exact ih3 _ _
   | exact gangsawref14_part.mono _ _ _ _ _ _
   | exact gangsawref14_stacked.mono _ _ _ _ _
   | exact gangsawref14_within.mono _ _ _ _ _ _ _ _ _ _ _
   | exact LeO.none _
   | refine LeO.ite ?_ ?_
   | refine LeO.bind ?_ (fun _ => ?_)
  ·intro y0 y1 y2 y3 y4 y5 y6 y7 y8 y9
   unfold gangsawref14_all.l1
   repeat' first
   | (with_reducible exact ih0 _ _ _ _ _ _ _ _ _)
   | (with_reducible exact ih1 _ _ _ _ _ _ _ _ _ _)
   | (with_reducible exact ih2 _ _ _ _ _ _ _ _)
   | (with_reducible exact ih3 _ _)
   | (with_reducible exact gangsawref14_part.mono _ _ _ _ _ _)
   | (with_reducible exact gangsawref14_stacked.mono _ _ _ _ _)
   | (with_reducible exact gangsawref14_within.mono _ _ _ _ _ _ _ _ _ _ _)
   | (with_reducible refine contains3.mono2 (fun x_ => ?_))
   | (with_reducible refine contains33.mono2 (fun x_ => ?_))
   | (with_reducible refine contains48.mono2 (fun x_ => ?_))
   | (with_reducible refine contains9.mono2 (fun x_ => ?_))
   | (with_reducible refine index3.mono2 (fun x_ => ?_))
   | (with_reducible refine index33.mono2 (fun x_ => ?_))
   | (with_reducible refine index48.mono2 (fun x_ => ?_))
   | (with_reducible refine index9.mono2 (fun x_ => ?_))
   | (with_reducible exact LeO.refl _)
   | (with_reducible exact LeO.none _)
   | (with_reducible refine LeO.ite ?_ ?_)
   | (with_reducible refine LeO.bind ?_ (fun _ => ?_))
   | exact ih0 _ _ _ _ _ _ _ _ _
   | exact ih1 _ _ _ _ _ _ _ _ _ _
   | exact ih2 _ _ _ _ _ _ _ _
   | exact ih3 _ _
   | exact gangsawref14_part.mono _ _ _ _ _ _
   | exact gangsawref14_stacked.mono _ _ _ _ _
   | exact gangsawref14_within.mono _ _ _ _ _ _ _ _ _ _ _
   | exact LeO.none _
   | refine LeO.ite ?_ ?_
   | refine LeO.bind ?_ (fun _ => ?_)
  ·intro y0 y1 y2 y3 y4 y5 y6 y7
   unfold gangsawref14_all.l2
   repeat' first
   | (with_reducible exact ih0 _ _ _ _ _ _ _ _ _)
   | (with_reducible exact ih1 _ _ _ _ _ _ _ _ _ _)
   | (with_reducible exact ih2 _ _ _ _ _ _ _ _)
   | (with_reducible exact ih3 _ _)
   | (with_reducible exact gangsawref14_part.mono _ _ _ _ _ _)
   | (with_reducible exact gangsawref14_stacked.mono _ _ _ _ _)
   | (with_reducible exact gangsawref14_within.mono _ _ _ _ _ _ _ _ _ _ _)
   | (with_reducible refine contains3.mono2 (fun x_ => ?_))
   | (with_reducible refine contains33.mono2 (fun x_ => ?_))
   | (with_reducible refine contains48.mono2 (fun x_ => ?_))
   | (with_reducible refine contains9.mono2 (fun x_ => ?_))
   | (with_reducible refine index3.mono2 (fun x_ => ?_))
   | (with_reducible refine index33.mono2 (fun x_ => ?_))
   | (with_reducible refine index48.mono2 (fun x_ => ?_))
   | (with_reducible refine index9.mono2 (fun x_ => ?_))
   | (with_reducible exact LeO.refl _)
   | (with_reducible exact LeO.none _)
   | (with_reducible refine LeO.ite ?_ ?_)
   | (with_reducible refine LeO.bind ?_ (fun _ => ?_))
   | exact ih0 _ _ _ _ _ _ _ _ _
   | exact ih1 _ _ _ _ _ _ _ _ _ _
   | exact ih2 _ _ _ _ _ _ _ _
   | exact ih3 _ _
   | exact gangsawref14_part.mono _ _ _ _ _ _
   | exact gangsawref14_stacked.mono _ _ _ _ _
   | exact gangsawref14_within.mono _ _ _ _ _ _ _ _ _ _ _
   | exact LeO.none _
   | refine LeO.ite ?_ ?_
   | refine LeO.bind ?_ (fun _ => ?_)
  ·intro y0 y1
   unfold gangsawref14_all.l3
   repeat' first
   | (with_reducible exact ih0 _ _ _ _ _ _ _ _ _)
   | (with_reducible exact ih1 _ _ _ _ _ _ _ _ _ _)
   | (with_reducible exact ih2 _ _ _ _ _ _ _ _)
   | (with_reducible exact ih3 _ _)
   | (with_reducible exact gangsawref14_part.mono _ _ _ _ _ _)
   | (with_reducible exact gangsawref14_stacked.mono _ _ _ _ _)
   | (with_reducible exact gangsawref14_within.mono _ _ _ _ _ _ _ _ _ _ _)
   | (with_reducible refine contains3.mono2 (fun x_ => ?_))
   | (with_reducible refine contains33.mono2 (fun x_ => ?_))
   | (with_reducible refine contains48.mono2 (fun x_ => ?_))
   | (with_reducible refine contains9.mono2 (fun x_ => ?_))
   | (with_reducible refine index3.mono2 (fun x_ => ?_))
   | (with_reducible refine index33.mono2 (fun x_ => ?_))
   | (with_reducible refine index48.mono2 (fun x_ => ?_))
   | (with_reducible refine index9.mono2 (fun x_ => ?_))
   | (with_reducible exact LeO.refl _)
   | (with_reducible exact LeO.none _)
   | (with_reducible refine LeO.ite ?_ ?_)
   | (with_reducible refine LeO.bind ?_ (fun _ => ?_))
   | exact ih0 _ _ _ _ _ _ _ _ _
   | exact ih1 _ _ _ _ _ _ _ _ _ _
   | exact ih2 _ _ _ _ _ _ _ _
   | exact ih3 _ _
   | exact gangsawref14_part.mono _ _ _ _ _ _
   | exact gangsawref14_stacked.mono _ _ _ _ _
   | exact gangsawref14_within.mono _ _ _ _ _ _ _ _ _ _ _
   | exact LeO.none _
   | refine LeO.ite ?_ ?_
   | refine LeO.bind ?_ (fun _ => ?_)
theorem gangsawref14_all.mono : ∀ a0 a1 a2 a3 a4 a5 a6 k, LeO (gangsawref14_all.f k a0 a1 a2 a3 a4 a5 a6) (gangsawref14_all.f (k + 1) a0 a1 a2 a3 a4 a5 a6) := by
 intro a0 a1 a2 a3 a4 a5 a6 k
 obtain ⟨ih0, ih1, ih2, ih3⟩ := gangsawref14_all.mono_l k
 unfold gangsawref14_all.f
 repeat' first
   | (with_reducible exact ih0 _ _ _ _ _ _ _ _ _)
   | (with_reducible exact ih1 _ _ _ _ _ _ _ _ _ _)
   | (with_reducible exact ih2 _ _ _ _ _ _ _ _)
   | (with_reducible exact ih3 _ _)
   | (with_reducible exact gangsawref14_part.mono _ _ _ _ _ _)
   | (with_reducible exact gangsawref14_stacked.mono _ _ _ _ _)
   | (with_reducible exact gangsawref14_within.mono _ _ _ _ _ _ _ _ _ _ _)
   | (with_reducible refine contains3.mono2 (fun x_ => ?_))
   | (with_reducible refine contains33.mono2 (fun x_ => ?_))
   | (with_reducible refine contains48.mono2 (fun x_ => ?_))
   | (with_reducible refine contains9.mono2 (fun x_ => ?_))
   | (with_reducible refine index3.mono2 (fun x_ => ?_))
   | (with_reducible refine index33.mono2 (fun x_ => ?_))
   | (with_reducible refine index48.mono2 (fun x_ => ?_))
   | (with_reducible refine index9.mono2 (fun x_ => ?_))
   | (with_reducible exact LeO.refl _)
   | (with_reducible exact LeO.none _)
   | (with_reducible refine LeO.ite ?_ ?_)
   | (with_reducible refine LeO.bind ?_ (fun _ => ?_))
   | exact ih0 _ _ _ _ _ _ _ _ _
   | exact ih1 _ _ _ _ _ _ _ _ _ _
   | exact ih2 _ _ _ _ _ _ _ _
   | exact ih3 _ _
   | exact gangsawref14_part.mono _ _ _ _ _ _
   | exact gangsawref14_stacked.mono _ _ _ _ _
   | exact gangsawref14_within.mono _ _ _ _ _ _ _ _ _ _ _
   | exact LeO.none _
   | refine LeO.ite ?_ ?_
   | refine LeO.bind ?_ (fun _ => ?_)
def gangsawref14_all.T8 : Bool × List (List Nat × List Nat) := (true, [([], []), ([], []), ([0, 1], [0, 1]), ([2], [2]), ([], []), ([], []), ([4, 5], [4, 5]), ([6], [6]), ([3, 7], [3, 7])])
def gangsawref14_all.B8 : List Nat := [0, 0, 3, 7, 0, 0, 48, 112, 255]
theorem gangsawref14_all.tab8 : rtab .any (opsOf Tryz.f43 8) = gangsawref14_all.T8 := by kernel_rfl
theorem gangsawref14_all.bits8 : waitsOk gangsawref14_all.T8.2 gangsawref14_all.B8 = true := by kernel_rfl
set_option maxHeartbeats 8000000 in
set_option maxRecDepth 100000 in
theorem gangsawref14_all.calls (k : Nat) (A0 : Option Addr) (c0 : Nat) (l0 : List (S33)) (a1_0 : Int) (a1_1 : Int) (a1_2 : Int) (a1_3 : Int) (a1_4 : Int) (a1_5 : Int) (r : Int) (w : World) (hr0 : Kd.C k33 w A0 l0.length l0) (hc0 : l0.length ≤ c0) (h : gangsawref14_all.f k l0 a1_0 a1_1 a1_2 a1_3 a1_4 a1_5 = some r) :
  Calls Tryz.prog 43 #[.slice A0 l0.length c0, .agg #[.int .i64 a1_0, .int .i64 a1_1, .int .i64 a1_2, .int .i64 a1_3, .int .i64 a1_4, .int .i64 a1_5]] w fun e w' => e = .returned (.int .i64 r) ∧ Below w.heap.size w w' := by
 have hu26 := Tryz.underlying26
 have hu33 := Tryz.underlying33
 have HR0 := aK hr0
 have HC0 := aK hc0
 clear hr0 hc0
 have HB := aK (Below.refl w.heap.size w)
 have H : (gangsawref14_all.l0 k l0 (([4, 7, 1] : List Int)) 0 a1_0 a1_1 a1_2 a1_3 a1_4 a1_5) = some r := h
 clear h
 obtain ⟨y139, hy139⟩ : ∃ y_ : List Int, y_ = (([4, 7, 1] : List Int)) := ⟨_, rfl⟩
 replace H : (gangsawref14_all.l0 k l0 y139 0 a1_0 a1_1 a1_2 a1_3 a1_4 a1_5) = some r := by first | (rw [hy139]; with_reducible exact H) | (have H2_ := (Option.bind_some _ _).symm.trans H; rw [hy139]; with_reducible exact H2_) | (have H2_ := (Option.bind_some _ _).symm.trans H; with_reducible exact H2_) | with_reducible exact H | (rw [hy139]; exact H) | exact H
 have Ny139 := aK hy139
 clear hy139
 have H' := aK H
 clear H
 go_enter Tryz.func43, Tryz.ntmps43
 go_wp2_with (first | ((with_reducible refine gate_dst (N := 3) rfl ?_); refine box_event ?hg (N := 3) ?hd (cs := #[.int .i64 a1_0, .int .i64 a1_1, .int .i64 a1_2, .int .i64 a1_3, .int .i64 a1_4, .int .i64 a1_5]) (t := 26) ?hr ?_; (case hd => rfl); (case hg => rfl); (case hr => first | (go_simp; done) | (go_simp; rfl)); intro gb138 hg w3 hbox hb; have ⟨n0_, n2_⟩ := zV (w := w) hb hg (by repeat (first | (with_reducible first | exact HB.out | apply yA | apply yN | apply yD) | exact HB.out)); have n1_ := aK (hbox); have n3_ := n2_; clear HB; have HB := n0_; have BK138 := n1_; have GW138 := n2_; have GE138 := n3_; clear n0_ n1_ n2_ n3_; clear hb hbox hg) | ((with_reducible refine gate_dst (N := 10) rfl ?_); refine Kd.R_lit (Kd.int .i64) _ 34 ?hg (N := 10) ?hd (xs := ([4, 7, 1] : List Int)) (inner := [.int .i64 4, .int .i64 7, .int .i64 1]) (ok := fun _ => True) (okp := fun _ => True) ?hr ?hp (fun _ hk => hk) trivial (Below.refl _ _) (Nat.le_refl _) (by simp) ?_; (case hd => rfl); (case hg => rfl); (case hr => first | (go_simp; done) | (go_simp; rfl)); (case hp => exact (Reps.one (show Kd.M (Kd.int .i64) _ _ _ 4 [.int .i64 4] from rfl) (Reps.one (show Kd.M (Kd.int .i64) _ _ _ 7 [.int .i64 7] from rfl) (Reps.one (show Kd.M (Kd.int .i64) _ _ _ 1 [.int .i64 1] from rfl) (Reps.none _ _))))); intro v140 w4 ho5 hb hg_ hnew_; clear hg_ hnew_; (first | rw [← Ny139.out] at ho5 | (simp only [Int.reduceToNat] at ho5; rw [← Ny139.out] at ho5)); have n0_ := aK (Kd.R_lower ho5 (yZ (by repeat (first | (with_reducible first | exact HB.out | apply yA | apply yN | apply yD | refine yS ?_ GE138.out) | exact HB.out)))); have n1_ := zG BK138 hb (fun h => by (with_reducible repeat (first | refine zN ?_ _ | refine zD ?_ | refine zA ?_ _)); exact h); have n2_ := aK (yT (by repeat (first | (with_reducible first | exact HB.out | apply yA | apply yN | apply yD | refine yS ?_ GE138.out) | exact HB.out)) hb); clear BK138; clear HB; have HO141 := n0_; have BK138 := n1_; have HB := n2_; clear n0_ n1_ n2_; clear hb ho5))
 go_loopg [6] k (fun kq v6 w' => ∃ (x6_1 : Int), v6 = .int .i64 x6_1 ∧ Aside0 (gangsawref14_all.l0 kq l0 y139 x6_1 a1_0 a1_1 a1_2 a1_3 a1_4 a1_5 = some r) ∧ Aside0 (kq ≤ k) ∧ Aside0 (Kd.R (Kd.int .i64) 34 w' w.heap.size (fun _ => True) v140 y139) ∧ Aside0 (w'.heap[gb138]? = some (.cells #[.int .i64 a1_0, .int .i64 a1_1, .int .i64 a1_2, .int .i64 a1_3, .int .i64 a1_4, .int .i64 a1_5] 26 (0, 0))) ∧ Aside0 (Below w.heap.size w w'))
 case atStart => exact ⟨(0), (by first | rfl | (simp; done) | (simp [*]; done)), H', ⟨Nat.le_refl _⟩, ⟨by (with_reducible repeat (first | apply Kd.R_alloc | apply Kd.R_drewN | apply Kd.R_drew)); exact HO141.out⟩, ⟨by (with_reducible repeat (first | refine zN ?_ _ | refine zD ?_ | refine zA ?_ _)); exact BK138.out⟩, ⟨by repeat (first | (with_reducible first | exact HB.out | apply yA | apply yN | apply yD | refine yS ?_ GE138.out) | exact HB.out)⟩⟩
 case round =>
  clear H'
  try clear p2
  try clear c4
  obtain ⟨x6_1, rfl, HA, HK1, HO_5, BK138, HB⟩ := hrel
  cases gk with
  | zero => exact absurd HA.out (by simp [gangsawref14_all.l0])
  | succ k1 =>
   have H := HA.out
   clear HA
   simp only [gangsawref14_all.l0] at H
   by_cases c6 : x6_1 < (y139.length : Int)
   ·rw [if_pos c6] at H
    have c6b0 : decide (x6_1 < (y139.length : Int)) = true := decide_eq_true c6
    clear c6
    have H' := aK H
    clear H
    obtain ⟨Ao7, co7, eo7⟩ := Kd.R_slice HO_5.out
    subst eo7
    go_wp2
    go_loopg [7] k1 (fun kq v7 w' => ∃ (x7_2 : Int), v7 = .int .i64 x7_2 ∧ Aside0 (gangsawref14_all.l1 kq l0 y139 x6_1 x7_2 a1_0 a1_1 a1_2 a1_3 a1_4 a1_5 = some r) ∧ Aside0 (kq ≤ k1) ∧ Aside0 (Kd.R (Kd.int .i64) 34 w' w.heap.size (fun _ => True) (.slice Ao7 y139.length co7) y139) ∧ Aside0 (w'.heap[gb138]? = some (.cells #[.int .i64 a1_0, .int .i64 a1_1, .int .i64 a1_2, .int .i64 a1_3, .int .i64 a1_4, .int .i64 a1_5] 26 (0, 0))) ∧ Aside0 (Below w.heap.size w w'))
    case atStart => exact ⟨(0), (by first | rfl | (simp; done) | (simp [*]; done)), H', ⟨Nat.le_refl _⟩, ⟨by (with_reducible repeat (first | apply Kd.R_alloc | apply Kd.R_drewN | apply Kd.R_drew)); exact HO_5.out⟩, ⟨by (with_reducible repeat (first | refine zN ?_ _ | refine zD ?_ | refine zA ?_ _)); exact BK138.out⟩, ⟨by repeat (first | (with_reducible first | exact HB.out | apply yA | apply yN | apply yD | refine yS ?_ GE138.out) | exact HB.out)⟩⟩
    case round =>
     clear H'
     try clear p2
     try clear c4
     try clear c6
     try clear c6b0
     try clear p2
     obtain ⟨x7_2, rfl, HA, HK2, HO_5, BK138, HB⟩ := hrel
     cases gk with
     | zero => exact absurd HA.out (by simp [gangsawref14_all.l1])
     | succ k2 =>
      have H := HA.out
      clear HA
      simp only [gangsawref14_all.l1] at H
      by_cases c8 : x7_2 < (l0.length : Int)
      ·rw [if_pos c8] at H
       have c8b0 : decide (x7_2 < (l0.length : Int)) = true := decide_eq_true c8
       clear c8
       by_cases c9 : 0 ≤ x7_2
       ·rw [if_pos c9] at H
        have c9b0 : decide (0 ≤ x7_2) = true := decide_eq_true c9
        clear c9
        by_cases c10 : 0 ≤ x6_1
        ·rw [if_pos c10] at H
         have c10b0 : decide (0 ≤ x6_1) = true := decide_eq_true c10
         clear c10
         by_cases c11 : x6_1 < (y139.length : Int)
         ·rw [if_pos c11] at H
          have c11b0 : decide (x6_1 < (y139.length : Int)) = true := decide_eq_true c11
          clear c11
          replace H := Option.bind_eq_some_iff.mp H
          obtain ⟨t144, A120, H⟩ := H
          replace H : (if t144 = true then (some (rd y139 x6_1)) else (gangsawref14_all.l1 k2 l0 y139 x6_1 (wrap64 (x7_2 + 1)) a1_0 a1_1 a1_2 a1_3 a1_4 a1_5)) = some r := H
          have A12 := aK A120
          clear A120
          by_cases c13 : t144 = true
          ·subst c13
           have H1 : (some (rd y139 x6_1)) = some r := by rw [if_pos rfl] at H; exact H
           clear H
           have H := H1
           clear H1
           obtain rfl := Option.some.inj H
           simp only [Option.some.injEq, Prod.mk.injEq] at H
           obtain ⟨rfl⟩ := H
           try go_wp2
           have n0_ := aK (Kd.R_drew HO_5.out)
           have n1_ := aK (zD BK138.out)
           have n2_ := aK (yD HB.out)
           clear HO_5
           clear BK138
           clear HB
           have HO_5 := n0_
           have BK138 := n1_
           have HB := n2_
           clear n0_ n1_ n2_
           have p142 : 0 ≤ (x7_2 : Int) := of_decide_eq_true (by first | (with_reducible assumption) | assumption)
           have q142 : x7_2 < (l0.length : Int) := of_decide_eq_true (by first | (with_reducible assumption) | assumption)
           obtain ⟨ad142, A142_3, c142_3, e142, hx142_0, hx142_1, hx142_2, hx142_3, hl142_3, hi142_3⟩ := at_T33 HR0.out x7_2 p142 q142
           have hw142_3 := hx142_3
           have hw142_2 := hx142_2
           have hw142_1 := hx142_1
           have hw142_0 := hx142_0
           cases e142
           replace hx142_0 := (HB.out.cell (World.block_lt_of_cell? w _ hx142_0)).trans hx142_0
           replace hx142_1 := (HB.out.cell (World.block_lt_of_cell? w _ hx142_1)).trans hx142_1
           replace hx142_2 := (HB.out.cell (World.block_lt_of_cell? w _ hx142_2)).trans hx142_2
           replace hx142_3 := (HB.out.cell (World.block_lt_of_cell? w _ hx142_3)).trans hx142_3
           have HR142_3 := aK hi142_3
           have HC142_3 := aK hl142_3
           clear hi142_3 hl142_3
           replace p142 := eq_true p142
           replace q142 := eq_true q142
           have p143 : 0 ≤ (x6_1 : Int) := of_decide_eq_true (by first | (with_reducible assumption) | assumption)
           have q143 : x6_1 < (y139.length : Int) := of_decide_eq_true (by first | (with_reducible assumption) | assumption)
           obtain ⟨ad143, e143, hx143_0⟩ := Kd.at_int (Kd.R_reads' HO_5.out).2.2 x6_1 p143 q143
           cases e143
           replace p143 := eq_true p143
           replace q143 := eq_true q143
           refine start_ (n := 9) (S := fun w' => w'.cell? (ad142.add ((x7_2).toNat * 4)) = some (.string ((rd_T33 l0 x7_2).f0)) ∧ w'.cell? ⟨(ad142.add ((x7_2).toNat * 4)).block, (ad142.add ((x7_2).toNat * 4)).off + 1, none⟩ = some (.int .i64 ((rd_T33 l0 x7_2).f1.f0)) ∧ w'.cell? ⟨(ad142.add ((x7_2).toNat * 4)).block, (ad142.add ((x7_2).toNat * 4)).off + 2, none⟩ = some (.int .i64 ((rd_T33 l0 x7_2).f1.f1)) ∧ w'.cell? ⟨(ad142.add ((x7_2).toNat * 4)).block, (ad142.add ((x7_2).toNat * 4)).off + 3, none⟩ = some (.slice A142_3 ((rd_T33 l0 x7_2).f2).length c142_3) ∧ w'.cell? (ad143.add (x6_1).toNat) = some (.int .i64 (rd y139 x6_1))) (ds := []) #[false, false, false, false, false, false, false, false, false] (by kernel_rfl) rfl rfl ⟨((HB.out.cell (World.block_lt_of_cell? w _ hw142_0)).trans hw142_0), ((HB.out.cell (World.block_lt_of_cell? w _ hw142_1)).trans hw142_1), ((HB.out.cell (World.block_lt_of_cell? w _ hw142_2)).trans hw142_2), ((HB.out.cell (World.block_lt_of_cell? w _ hw142_3)).trans hw142_3), hx143_0⟩ (fun hHeld => ?_); refine with_tabW gangsawref14_all.tab8 gangsawref14_all.bits8 (fun HT_ HW_ => ?_)
           generalize wr.drew = w14 at HO_5 BK138 HB HR142_3 hx142_0 hx142_1 hx142_2 hx142_3 hx143_0 hHeld ⊢
           refine pure_ (i := 0) (N := some 23) (v := ?_) (a' := ?_) #[true, false, false, false, false, false, false, false, false] rfl rfl (any_of HT_.out (by kernel_rfl)) (fun _ _ _ h => h) (Or.inl ⟨by rfl, ?_⟩) ?_ ?_
           rotate_left
           ·intro w'
            go_simp
            with_reducible rfl
           rotate_left
           ·simp only [Act.put, sA, sZ, sS, i64_w, i32_w]
            rfl
           refine pure_ (i := 1) (N := some 24) (v := ?_) (a' := ?_) #[true, true, false, false, false, false, false, false, false] rfl rfl (any_of HT_.out (by kernel_rfl)) (fun _ _ _ h => h) (Or.inl ⟨by rfl, ?_⟩) ?_ ?_
           rotate_left
           ·intro w'
            go_simp
            with_reducible rfl
           rotate_left
           ·simp only [Act.put, sA, sZ, sS, i64_w, i32_w]
            rfl
           refine pure_ (i := 2) (N := some 25) (v := ?_) (a' := ?_) #[true, true, true, false, false, false, false, false, false] rfl rfl (any_of HT_.out (by kernel_rfl)) (fun _ _ _ h => h) (Or.inl ⟨by rfl, ?_⟩) ?_ ?_
           rotate_left
           ·intro w'
            go_simp
            with_reducible rfl
           rotate_left
           ·simp only [Act.put, sA, sZ, sS, i64_w, i32_w]
            rfl
           refine pure_ (i := 4) (N := some 27) (v := ?_) (a' := ?_) #[true, true, true, false, true, false, false, false, false] rfl rfl (any_of HT_.out (by kernel_rfl)) (fun _ _ _ h => h) (Or.inl ⟨by rfl, ?_⟩) ?_ ?_
           rotate_left
           ·intro w'
            go_simp
            with_reducible rfl
           rotate_left
           ·simp only [Act.put, sA, sZ, sS, i64_w, i32_w]
            rfl
           refine pure_ (i := 5) (N := some 28) (v := ?_) (a' := ?_) #[true, true, true, false, true, true, false, false, false] rfl rfl (any_of HT_.out (by kernel_rfl)) (fun _ _ _ h => h) (Or.inl ⟨by rfl, ?_⟩) ?_ ?_
           rotate_left
           ·intro w'
            go_simp
            with_reducible rfl
           rotate_left
           ·simp only [Act.put, sA, sZ, sS, i64_w, i32_w]
            rfl
           refine pure_ (i := 6) (N := some 29) (v := ?_) (a' := ?_) #[true, true, true, false, true, true, true, false, false] rfl rfl (any_of HT_.out (by kernel_rfl)) (fun _ _ _ h => h) (Or.inl ⟨by rfl, ?_⟩) ?_ ?_
           rotate_left
           ·intro w'
            go_simp
            with_reducible rfl
           rotate_left
           ·simp only [Act.put, sA, sZ, sS, i64_w, i32_w]
            rfl
           refine take_ (i := 3) (N := some 26) (v := ?_) (a' := ?_) #[true, true, true, true, true, true, true, false, false] rfl rfl (take_ofW HT_.out HW_.out (by kernel_rfl)) (fun _ _ _ h => h) (Or.inl ⟨by rfl, ?_⟩) hHeld ?_ ?_
           rotate_left
           ·rintro w' ⟨s0, s1, s2, s3, s4⟩
            go_simp
            with_reducible rfl
           rotate_left
           ·simp only [Act.put, sA, sZ, sS, i64_w, i32_w]
            rfl
           refine take_ (i := 7) (N := some 30) (v := ?_) (a' := ?_) #[true, true, true, true, true, true, true, true, false] rfl rfl (take_ofW HT_.out HW_.out (by kernel_rfl)) (fun _ _ _ h => h) (Or.inl ⟨by rfl, ?_⟩) hHeld ?_ ?_
           rotate_left
           ·rintro w' ⟨s0, s1, s2, s3, s4⟩
            go_simp
            with_reducible rfl
           rotate_left
           ·simp only [Act.put, sA, sZ, sS, i64_w, i32_w]
            rfl
           refine one_ (i := 8) (N := some 31) #[true, true, true, true, true, true, true, true, true] rfl rfl (one_of HT_.out (by kernel_rfl)) (by decide) (fun K hK => ?_)
           refine goes_ Tryz.func90 (by kernel_rfl) rfl #[.agg #[.string ((rd_T33 l0 x7_2).f0), .int .i64 ((rd_T33 l0 x7_2).f1.f0), .int .i64 ((rd_T33 l0 x7_2).f1.f1), .slice A142_3 ((rd_T33 l0 x7_2).f2).length c142_3], .int .i64 (rd y139 x6_1)] (by rfl) rfl rfl (by (try simp only [List.map_toArray, List.map_cons, List.map_nil]); first | done | rfl | (simp only [List.length_drop, List.length_take]; rfl)) ?_
           with_reducible refine (gangsawref14_part.calls k2 ((rd_T33 l0 x7_2).f0) ((rd_T33 l0 x7_2).f1.f0) ((rd_T33 l0 x7_2).f1.f1) _ _ ((rd_T33 l0 x7_2).f2) (rd y139 x6_1) true _ ?side1 ?side2 A12.out).mono ?_
           (case side1 => repeat (first | exact (Kd.C_below HR142_3.out HB.out) | (with_reducible refine Kd.C_alloc ?_ _) | (with_reducible refine Kd.C_drewN ?_ _) | (with_reducible refine Kd.C_drew ?_)))
           (case side2 => exact HC142_3.out)
           rintro e w15 ⟨rfl, hb⟩
           have HS4_ := (hb.cell (World.block_lt_of_cell? _ _ (hHeld.2.2.2.2))).trans (hHeld.2.2.2.2)
           refine ⟨_, rfl, ?_⟩
           have n0_ := aK (Kd.R_below (by (with_reducible repeat (first | apply Kd.R_alloc | apply Kd.R_drewN | apply Kd.R_drew)); exact HO_5.out) hb)
           have n1_ := zG BK138 hb (fun h => by (with_reducible repeat (first | refine zN ?_ _ | refine zD ?_ | refine zA ?_ _)); exact h)
           have n2_ := aK (yT (by repeat (first | (with_reducible first | exact HB.out | apply yA | apply yN | apply yD | refine yS ?_ GE138.out) | exact HB.out)) hb)
           clear HO_5
           clear BK138
           clear HB
           have HO_5 := n0_
           have BK138 := n1_
           have HB := n2_
           clear n0_ n1_ n2_
           (try clear hb)
           (try clear hb2)
           (try clear hk)
           (try clear hi)
           refine hK.out _ _ ⟨((HB.out.cell (World.block_lt_of_cell? w _ hw142_0)).trans hw142_0), ((HB.out.cell (World.block_lt_of_cell? w _ hw142_1)).trans hw142_1), ((HB.out.cell (World.block_lt_of_cell? w _ hw142_2)).trans hw142_2), ((HB.out.cell (World.block_lt_of_cell? w _ hw142_3)).trans hw142_3), HS4_⟩ (fun hHeld => ?_)
           clear hK K
           refine norm_ (a' := ?_) ?_ ?_
           rotate_left
           ·show Act.put _ (some 31) _ = _
            simp only [Act.put, sA, sZ, sS, i64_w, i32_w]
            rfl
           refine done_ (done_of HT_.out (by kernel_rfl)) ?_
           have p145 : 0 ≤ (x6_1 : Int) := of_decide_eq_true (by first | (with_reducible assumption) | assumption)
           have q145 : x6_1 < (y139.length : Int) := of_decide_eq_true (by first | (with_reducible assumption) | assumption)
           obtain ⟨ad145, e145, hx145_0⟩ := Kd.at_int (Kd.R_reads' HO_5.out).2.2 x6_1 p145 q145
           obtain rfl : ad143 = ad145 := (by injection e145)
           replace p145 := eq_true p145
           replace q145 := eq_true q145
           try go_wp2
           go_ret
           exact ⟨by first | rfl | (simp [errW_none, errW_some] <;> rfl) | (simp [*, errW_none, errW_some] <;> rfl), by repeat (first | (with_reducible first | exact HB.out | apply yA | apply yN | apply yD | refine yS ?_ GE138.out) | exact HB.out)⟩
          ·replace c13 := Bool.eq_false_iff.mpr c13
           subst c13
           have H1 : (gangsawref14_all.l1 k2 l0 y139 x6_1 (wrap64 (x7_2 + 1)) a1_0 a1_1 a1_2 a1_3 a1_4 a1_5) = some r := by rw [if_neg (show ¬ (false = true) by decide)] at H; exact H
           clear H
           have H := H1
           clear H1
           have H' := aK H
           clear H
           try go_wp2
           have n0_ := aK (Kd.R_drew HO_5.out)
           have n1_ := aK (zD BK138.out)
           have n2_ := aK (yD HB.out)
           clear HO_5
           clear BK138
           clear HB
           have HO_5 := n0_
           have BK138 := n1_
           have HB := n2_
           clear n0_ n1_ n2_
           have p142 : 0 ≤ (x7_2 : Int) := of_decide_eq_true (by first | (with_reducible assumption) | assumption)
           have q142 : x7_2 < (l0.length : Int) := of_decide_eq_true (by first | (with_reducible assumption) | assumption)
           obtain ⟨ad142, A142_3, c142_3, e142, hx142_0, hx142_1, hx142_2, hx142_3, hl142_3, hi142_3⟩ := at_T33 HR0.out x7_2 p142 q142
           have hw142_3 := hx142_3
           have hw142_2 := hx142_2
           have hw142_1 := hx142_1
           have hw142_0 := hx142_0
           cases e142
           replace hx142_0 := (HB.out.cell (World.block_lt_of_cell? w _ hx142_0)).trans hx142_0
           replace hx142_1 := (HB.out.cell (World.block_lt_of_cell? w _ hx142_1)).trans hx142_1
           replace hx142_2 := (HB.out.cell (World.block_lt_of_cell? w _ hx142_2)).trans hx142_2
           replace hx142_3 := (HB.out.cell (World.block_lt_of_cell? w _ hx142_3)).trans hx142_3
           have HR142_3 := aK hi142_3
           have HC142_3 := aK hl142_3
           clear hi142_3 hl142_3
           replace p142 := eq_true p142
           replace q142 := eq_true q142
           have p143 : 0 ≤ (x6_1 : Int) := of_decide_eq_true (by first | (with_reducible assumption) | assumption)
           have q143 : x6_1 < (y139.length : Int) := of_decide_eq_true (by first | (with_reducible assumption) | assumption)
           obtain ⟨ad143, e143, hx143_0⟩ := Kd.at_int (Kd.R_reads' HO_5.out).2.2 x6_1 p143 q143
           cases e143
           replace p143 := eq_true p143
           replace q143 := eq_true q143
           refine start_ (n := 9) (S := fun w' => w'.cell? (ad142.add ((x7_2).toNat * 4)) = some (.string ((rd_T33 l0 x7_2).f0)) ∧ w'.cell? ⟨(ad142.add ((x7_2).toNat * 4)).block, (ad142.add ((x7_2).toNat * 4)).off + 1, none⟩ = some (.int .i64 ((rd_T33 l0 x7_2).f1.f0)) ∧ w'.cell? ⟨(ad142.add ((x7_2).toNat * 4)).block, (ad142.add ((x7_2).toNat * 4)).off + 2, none⟩ = some (.int .i64 ((rd_T33 l0 x7_2).f1.f1)) ∧ w'.cell? ⟨(ad142.add ((x7_2).toNat * 4)).block, (ad142.add ((x7_2).toNat * 4)).off + 3, none⟩ = some (.slice A142_3 ((rd_T33 l0 x7_2).f2).length c142_3) ∧ w'.cell? (ad143.add (x6_1).toNat) = some (.int .i64 (rd y139 x6_1))) (ds := []) #[false, false, false, false, false, false, false, false, false] (by kernel_rfl) rfl rfl ⟨((HB.out.cell (World.block_lt_of_cell? w _ hw142_0)).trans hw142_0), ((HB.out.cell (World.block_lt_of_cell? w _ hw142_1)).trans hw142_1), ((HB.out.cell (World.block_lt_of_cell? w _ hw142_2)).trans hw142_2), ((HB.out.cell (World.block_lt_of_cell? w _ hw142_3)).trans hw142_3), hx143_0⟩ (fun hHeld => ?_); refine with_tabW gangsawref14_all.tab8 gangsawref14_all.bits8 (fun HT_ HW_ => ?_)
           generalize wr.drew = w16 at HO_5 BK138 HB HR142_3 hx142_0 hx142_1 hx142_2 hx142_3 hx143_0 hHeld ⊢
           refine pure_ (i := 0) (N := some 23) (v := ?_) (a' := ?_) #[true, false, false, false, false, false, false, false, false] rfl rfl (any_of HT_.out (by kernel_rfl)) (fun _ _ _ h => h) (Or.inl ⟨by rfl, ?_⟩) ?_ ?_
           rotate_left
           ·intro w'
            go_simp
            with_reducible rfl
           rotate_left
           ·simp only [Act.put, sA, sZ, sS, i64_w, i32_w]
            rfl
           refine pure_ (i := 1) (N := some 24) (v := ?_) (a' := ?_) #[true, true, false, false, false, false, false, false, false] rfl rfl (any_of HT_.out (by kernel_rfl)) (fun _ _ _ h => h) (Or.inl ⟨by rfl, ?_⟩) ?_ ?_
           rotate_left
           ·intro w'
            go_simp
            with_reducible rfl
           rotate_left
           ·simp only [Act.put, sA, sZ, sS, i64_w, i32_w]
            rfl
           refine pure_ (i := 2) (N := some 25) (v := ?_) (a' := ?_) #[true, true, true, false, false, false, false, false, false] rfl rfl (any_of HT_.out (by kernel_rfl)) (fun _ _ _ h => h) (Or.inl ⟨by rfl, ?_⟩) ?_ ?_
           rotate_left
           ·intro w'
            go_simp
            with_reducible rfl
           rotate_left
           ·simp only [Act.put, sA, sZ, sS, i64_w, i32_w]
            rfl
           refine pure_ (i := 4) (N := some 27) (v := ?_) (a' := ?_) #[true, true, true, false, true, false, false, false, false] rfl rfl (any_of HT_.out (by kernel_rfl)) (fun _ _ _ h => h) (Or.inl ⟨by rfl, ?_⟩) ?_ ?_
           rotate_left
           ·intro w'
            go_simp
            with_reducible rfl
           rotate_left
           ·simp only [Act.put, sA, sZ, sS, i64_w, i32_w]
            rfl
           refine pure_ (i := 5) (N := some 28) (v := ?_) (a' := ?_) #[true, true, true, false, true, true, false, false, false] rfl rfl (any_of HT_.out (by kernel_rfl)) (fun _ _ _ h => h) (Or.inl ⟨by rfl, ?_⟩) ?_ ?_
           rotate_left
           ·intro w'
            go_simp
            with_reducible rfl
           rotate_left
           ·simp only [Act.put, sA, sZ, sS, i64_w, i32_w]
            rfl
           refine pure_ (i := 6) (N := some 29) (v := ?_) (a' := ?_) #[true, true, true, false, true, true, true, false, false] rfl rfl (any_of HT_.out (by kernel_rfl)) (fun _ _ _ h => h) (Or.inl ⟨by rfl, ?_⟩) ?_ ?_
           rotate_left
           ·intro w'
            go_simp
            with_reducible rfl
           rotate_left
           ·simp only [Act.put, sA, sZ, sS, i64_w, i32_w]
            rfl
           refine take_ (i := 3) (N := some 26) (v := ?_) (a' := ?_) #[true, true, true, true, true, true, true, false, false] rfl rfl (take_ofW HT_.out HW_.out (by kernel_rfl)) (fun _ _ _ h => h) (Or.inl ⟨by rfl, ?_⟩) hHeld ?_ ?_
           rotate_left
           ·rintro w' ⟨s0, s1, s2, s3, s4⟩
            go_simp
            with_reducible rfl
           rotate_left
           ·simp only [Act.put, sA, sZ, sS, i64_w, i32_w]
            rfl
           refine take_ (i := 7) (N := some 30) (v := ?_) (a' := ?_) #[true, true, true, true, true, true, true, true, false] rfl rfl (take_ofW HT_.out HW_.out (by kernel_rfl)) (fun _ _ _ h => h) (Or.inl ⟨by rfl, ?_⟩) hHeld ?_ ?_
           rotate_left
           ·rintro w' ⟨s0, s1, s2, s3, s4⟩
            go_simp
            with_reducible rfl
           rotate_left
           ·simp only [Act.put, sA, sZ, sS, i64_w, i32_w]
            rfl
           refine one_ (i := 8) (N := some 31) #[true, true, true, true, true, true, true, true, true] rfl rfl (one_of HT_.out (by kernel_rfl)) (by decide) (fun K hK => ?_)
           refine goes_ Tryz.func90 (by kernel_rfl) rfl #[.agg #[.string ((rd_T33 l0 x7_2).f0), .int .i64 ((rd_T33 l0 x7_2).f1.f0), .int .i64 ((rd_T33 l0 x7_2).f1.f1), .slice A142_3 ((rd_T33 l0 x7_2).f2).length c142_3], .int .i64 (rd y139 x6_1)] (by rfl) rfl rfl (by (try simp only [List.map_toArray, List.map_cons, List.map_nil]); first | done | rfl | (simp only [List.length_drop, List.length_take]; rfl)) ?_
           with_reducible refine (gangsawref14_part.calls k2 ((rd_T33 l0 x7_2).f0) ((rd_T33 l0 x7_2).f1.f0) ((rd_T33 l0 x7_2).f1.f1) _ _ ((rd_T33 l0 x7_2).f2) (rd y139 x6_1) false _ ?side1 ?side2 A12.out).mono ?_
           (case side1 => repeat (first | exact (Kd.C_below HR142_3.out HB.out) | (with_reducible refine Kd.C_alloc ?_ _) | (with_reducible refine Kd.C_drewN ?_ _) | (with_reducible refine Kd.C_drew ?_)))
           (case side2 => exact HC142_3.out)
           rintro e w17 ⟨rfl, hb⟩
           have HS4_ := (hb.cell (World.block_lt_of_cell? _ _ (hHeld.2.2.2.2))).trans (hHeld.2.2.2.2)
           refine ⟨_, rfl, ?_⟩
           have n0_ := aK (Kd.R_below (by (with_reducible repeat (first | apply Kd.R_alloc | apply Kd.R_drewN | apply Kd.R_drew)); exact HO_5.out) hb)
           have n1_ := zG BK138 hb (fun h => by (with_reducible repeat (first | refine zN ?_ _ | refine zD ?_ | refine zA ?_ _)); exact h)
           have n2_ := aK (yT (by repeat (first | (with_reducible first | exact HB.out | apply yA | apply yN | apply yD | refine yS ?_ GE138.out) | exact HB.out)) hb)
           clear HO_5
           clear BK138
           clear HB
           have HO_5 := n0_
           have BK138 := n1_
           have HB := n2_
           clear n0_ n1_ n2_
           (try clear hb)
           (try clear hb2)
           (try clear hk)
           (try clear hi)
           refine hK.out _ _ ⟨((HB.out.cell (World.block_lt_of_cell? w _ hw142_0)).trans hw142_0), ((HB.out.cell (World.block_lt_of_cell? w _ hw142_1)).trans hw142_1), ((HB.out.cell (World.block_lt_of_cell? w _ hw142_2)).trans hw142_2), ((HB.out.cell (World.block_lt_of_cell? w _ hw142_3)).trans hw142_3), HS4_⟩ (fun hHeld => ?_)
           clear hK K
           refine norm_ (a' := ?_) ?_ ?_
           rotate_left
           ·show Act.put _ (some 31) _ = _
            simp only [Act.put, sA, sZ, sS, i64_w, i32_w]
            rfl
           refine done_ (done_of HT_.out (by kernel_rfl)) ?_
           try go_wp2
           go_roundg k2
           case measure => have := HK1.out; have := HK2.out; omega
           case rel => exact ⟨(wrap64 (x7_2 + 1)), (by first | rfl | (simp; done) | (simp [*]; done)), H', ⟨by have := HK1.out; have := HK2.out; omega⟩, ⟨by (with_reducible repeat (first | apply Kd.R_alloc | apply Kd.R_drewN | apply Kd.R_drew)); exact HO_5.out⟩, ⟨by (with_reducible repeat (first | refine zN ?_ _ | refine zD ?_ | refine zA ?_ _)); exact BK138.out⟩, ⟨by repeat (first | (with_reducible first | exact HB.out | apply yA | apply yN | apply yD | refine yS ?_ GE138.out) | exact HB.out)⟩⟩
         ·rw [if_neg c11] at H
          exact absurd H (by simp)
        ·rw [if_neg c10] at H
         exact absurd H (by simp)
       ·rw [if_neg c9] at H
        exact absurd H (by simp)
      ·rw [if_neg c8] at H
       have c8b0 : decide (x7_2 < (l0.length : Int)) = false := decide_eq_false c8
       clear c8
       have H' := aK H
       clear H
       go_wp2
       go_roundg k2
       case measure => have := HK1.out; have := HK2.out; omega
       case rel => exact ⟨(wrap64 (x6_1 + 1)), (by first | rfl | (simp; done) | (simp [*]; done)), H', ⟨by have := HK1.out; have := HK2.out; omega⟩, ⟨by (with_reducible repeat (first | apply Kd.R_alloc | apply Kd.R_drewN | apply Kd.R_drew)); exact HO_5.out⟩, ⟨by (with_reducible repeat (first | refine zN ?_ _ | refine zD ?_ | refine zA ?_ _)); exact BK138.out⟩, ⟨by repeat (first | (with_reducible first | exact HB.out | apply yA | apply yN | apply yD | refine yS ?_ GE138.out) | exact HB.out)⟩⟩
   ·rw [if_neg c6] at H
    have c6b0 : decide (x6_1 < (y139.length : Int)) = false := decide_eq_false c6
    clear c6
    have H' := aK H
    clear H
    obtain ⟨Ao18, co18, eo18⟩ := Kd.R_slice HO_5.out
    subst eo18
    go_wp2
    go_loopg [8] k1 (fun kq v8 w' => ∃ (x8_2 : Int), v8 = .int .i64 x8_2 ∧ Aside0 (gangsawref14_all.l2 kq l0 x8_2 a1_0 a1_1 a1_2 a1_3 a1_4 a1_5 = some r) ∧ Aside0 (kq ≤ k1) ∧ Aside0 (w'.heap[gb138]? = some (.cells #[.int .i64 a1_0, .int .i64 a1_1, .int .i64 a1_2, .int .i64 a1_3, .int .i64 a1_4, .int .i64 a1_5] 26 (0, 0))) ∧ Aside0 (Below w.heap.size w w'))
    case atStart => exact ⟨(0), (by first | rfl | (simp; done) | (simp [*]; done)), H', ⟨Nat.le_refl _⟩, ⟨by (with_reducible repeat (first | refine zN ?_ _ | refine zD ?_ | refine zA ?_ _)); exact BK138.out⟩, ⟨by repeat (first | (with_reducible first | exact HB.out | apply yA | apply yN | apply yD | refine yS ?_ GE138.out) | exact HB.out)⟩⟩
    case round =>
     clear H'
     try clear c1
     try clear p1
     try clear q1
     try clear hx1
     try clear p2
     try clear c4
     try clear c6
     try clear c6b0
     try clear p6
     try clear c8
     try clear c8b0
     try clear c9
     try clear c9b0
     try clear c10
     try clear c10b0
     try clear c11
     try clear c11b0
     try clear c13
     try clear c14
     try clear p14
     try clear q14
     try clear hx14
     try clear hx142_0
     try clear hx142_1
     try clear hx142_2
     try clear hx142_3
     try clear hx143_0
     try clear hx145_0
     try clear p142
     try clear p143
     try clear p145
     try clear p2
     try clear q142
     try clear q143
     try clear q145
     obtain ⟨x8_2, rfl, HA, HK2, BK138, HB⟩ := hrel
     cases gk with
     | zero => exact absurd HA.out (by simp [gangsawref14_all.l2])
     | succ k2 =>
      have H := HA.out
      clear HA
      simp only [gangsawref14_all.l2] at H
      by_cases c19 : x8_2 < (l0.length : Int)
      ·rw [if_pos c19] at H
       have c19b0 : decide (x8_2 < (l0.length : Int)) = true := decide_eq_true c19
       clear c19
       by_cases c20 : 0 ≤ x8_2
       ·rw [if_pos c20] at H
        have c20b0 : decide (0 ≤ x8_2) = true := decide_eq_true c20
        clear c20
        replace H := Option.bind_eq_some_iff.mp H
        obtain ⟨t147, A210, H⟩ := H
        replace H : (if t147 = true then (gangsawref14_all.l2 k2 l0 (wrap64 (x8_2 + 1)) a1_0 a1_1 a1_2 a1_3 a1_4 a1_5) else (some 12)) = some r := H
        have A21 := aK A210
        clear A210
        by_cases c22 : t147 = true
        ·subst c22
         have H1 : (gangsawref14_all.l2 k2 l0 (wrap64 (x8_2 + 1)) a1_0 a1_1 a1_2 a1_3 a1_4 a1_5) = some r := by rw [if_pos rfl] at H; exact H
         clear H
         have H := H1
         clear H1
         have H' := aK H
         clear H
         try go_wp2
         have n0_ := aK (zD BK138.out)
         have n1_ := aK (yD HB.out)
         clear BK138
         clear HB
         have BK138 := n0_
         have HB := n1_
         clear n0_ n1_
         have p146 : 0 ≤ (x8_2 : Int) := of_decide_eq_true (by first | (with_reducible assumption) | assumption)
         have q146 : x8_2 < (l0.length : Int) := of_decide_eq_true (by first | (with_reducible assumption) | assumption)
         obtain ⟨ad146, A146_3, c146_3, e146, hx146_0, hx146_1, hx146_2, hx146_3, hl146_3, hi146_3⟩ := at_T33 HR0.out x8_2 p146 q146
         have hw146_3 := hx146_3
         have hw146_2 := hx146_2
         have hw146_1 := hx146_1
         have hw146_0 := hx146_0
         cases e146
         replace hx146_0 := (HB.out.cell (World.block_lt_of_cell? w _ hx146_0)).trans hx146_0
         replace hx146_1 := (HB.out.cell (World.block_lt_of_cell? w _ hx146_1)).trans hx146_1
         replace hx146_2 := (HB.out.cell (World.block_lt_of_cell? w _ hx146_2)).trans hx146_2
         replace hx146_3 := (HB.out.cell (World.block_lt_of_cell? w _ hx146_3)).trans hx146_3
         have HR146_3 := aK hi146_3
         have HC146_3 := aK hl146_3
         clear hi146_3 hl146_3
         replace p146 := eq_true p146
         replace q146 := eq_true q146
         refine start_ (n := 7) (S := fun w' => w'.cell? ⟨gb138, 0, none⟩ = some (.int .i64 a1_0) ∧ w'.cell? ⟨gb138, 1, none⟩ = some (.int .i64 a1_1) ∧ w'.cell? ⟨gb138, 2, none⟩ = some (.int .i64 a1_2) ∧ w'.cell? ⟨gb138, 3, none⟩ = some (.int .i64 a1_3) ∧ w'.cell? ⟨gb138, 4, none⟩ = some (.int .i64 a1_4) ∧ w'.cell? ⟨gb138, 5, none⟩ = some (.int .i64 a1_5) ∧ w'.cell? (ad146.add ((x8_2).toNat * 4)) = some (.string ((rd_T33 l0 x8_2).f0)) ∧ w'.cell? ⟨(ad146.add ((x8_2).toNat * 4)).block, (ad146.add ((x8_2).toNat * 4)).off + 1, none⟩ = some (.int .i64 ((rd_T33 l0 x8_2).f1.f0)) ∧ w'.cell? ⟨(ad146.add ((x8_2).toNat * 4)).block, (ad146.add ((x8_2).toNat * 4)).off + 2, none⟩ = some (.int .i64 ((rd_T33 l0 x8_2).f1.f1)) ∧ w'.cell? ⟨(ad146.add ((x8_2).toNat * 4)).block, (ad146.add ((x8_2).toNat * 4)).off + 3, none⟩ = some (.slice A146_3 ((rd_T33 l0 x8_2).f2).length c146_3)) (ds := []) #[false, false, false, false, false, false, false] (by kernel_rfl) rfl rfl ⟨(zC BK138.out 0).trans rfl, (zC BK138.out 1).trans rfl, (zC BK138.out 2).trans rfl, (zC BK138.out 3).trans rfl, (zC BK138.out 4).trans rfl, (zC BK138.out 5).trans rfl, ((HB.out.cell (World.block_lt_of_cell? w _ hw146_0)).trans hw146_0), ((HB.out.cell (World.block_lt_of_cell? w _ hw146_1)).trans hw146_1), ((HB.out.cell (World.block_lt_of_cell? w _ hw146_2)).trans hw146_2), ((HB.out.cell (World.block_lt_of_cell? w _ hw146_3)).trans hw146_3)⟩ (fun hHeld => ?_)
         generalize wr.drew = w23 at BK138 HB HR146_3 hx146_0 hx146_1 hx146_2 hx146_3 hHeld ⊢
         refine pure_ (i := 0) (N := some 42) (v := ?_) (a' := ?_) #[true, false, false, false, false, false, false] rfl rfl (by kernel_rfl) (fun _ _ _ h => h) (Or.inl ⟨by rfl, ?_⟩) ?_ ?_
         rotate_left
         ·intro w'
          go_simp
          with_reducible rfl
         rotate_left
         ·simp only [Act.put, sA, sZ, sS, i64_w, i32_w]
          rfl
         refine pure_ (i := 1) (N := some 43) (v := ?_) (a' := ?_) #[true, true, false, false, false, false, false] rfl rfl (by kernel_rfl) (fun _ _ _ h => h) (Or.inl ⟨by rfl, ?_⟩) ?_ ?_
         rotate_left
         ·intro w'
          go_simp
          with_reducible rfl
         rotate_left
         ·simp only [Act.put, sA, sZ, sS, i64_w, i32_w]
          rfl
         refine pure_ (i := 2) (N := some 44) (v := ?_) (a' := ?_) #[true, true, true, false, false, false, false] rfl rfl (by kernel_rfl) (fun _ _ _ h => h) (Or.inl ⟨by rfl, ?_⟩) ?_ ?_
         rotate_left
         ·intro w'
          go_simp
          with_reducible rfl
         rotate_left
         ·simp only [Act.put, sA, sZ, sS, i64_w, i32_w]
          rfl
         refine take_ (i := 3) (N := some 45) (v := ?_) (a' := ?_) #[true, true, true, true, false, false, false] rfl rfl (by kernel_rfl) (fun _ _ _ h => h) (Or.inl ⟨by rfl, ?_⟩) hHeld ?_ ?_
         rotate_left
         ·rintro w' ⟨s0, s1, s2, s3, s4, s5, s6, s7, s8, s9⟩
          go_simp
          with_reducible rfl
         rotate_left
         ·simp only [Act.put, sA, sZ, sS, i64_w, i32_w]
          rfl
         refine take_ (i := 4) (N := some 46) (v := ?_) (a' := ?_) #[true, true, true, true, true, false, false] rfl rfl (by kernel_rfl) (fun _ _ _ h => h) (Or.inl ⟨by rfl, ?_⟩) hHeld ?_ ?_
         rotate_left
         ·rintro w' ⟨s0, s1, s2, s3, s4, s5, s6, s7, s8, s9⟩
          go_simp
          with_reducible rfl
         rotate_left
         ·simp only [Act.put, sA, sZ, sS, i64_w, i32_w]
          rfl
         refine one_ (i := 5) (N := some 47) #[true, true, true, true, true, true, false] rfl rfl (by kernel_rfl) (by decide) (fun K hK => ?_)
         refine goes_ Tryz.func91 (by kernel_rfl) rfl #[.agg #[.string ((rd_T33 l0 x8_2).f0), .int .i64 ((rd_T33 l0 x8_2).f1.f0), .int .i64 ((rd_T33 l0 x8_2).f1.f1), .slice A146_3 ((rd_T33 l0 x8_2).f2).length c146_3], .agg #[.int .i64 a1_0, .int .i64 a1_1, .int .i64 a1_2, .int .i64 a1_3, .int .i64 a1_4, .int .i64 a1_5]] (by rfl) rfl rfl (by (try simp only [List.map_toArray, List.map_cons, List.map_nil]); first | done | rfl | (simp only [List.length_drop, List.length_take]; rfl)) ?_
         with_reducible refine (gangsawref14_within.calls k2 ((rd_T33 l0 x8_2).f0) ((rd_T33 l0 x8_2).f1.f0) ((rd_T33 l0 x8_2).f1.f1) _ _ ((rd_T33 l0 x8_2).f2) a1_0 a1_1 a1_2 a1_3 a1_4 a1_5 true _ ?side1 ?side2 A21.out).mono ?_
         (case side1 => repeat (first | exact (Kd.C_below HR146_3.out HB.out) | (with_reducible refine Kd.C_alloc ?_ _) | (with_reducible refine Kd.C_drewN ?_ _) | (with_reducible refine Kd.C_drew ?_)))
         (case side2 => exact HC146_3.out)
         rintro e w24 ⟨rfl, hb⟩
         refine ⟨_, rfl, ?_⟩
         have n0_ := zG BK138 hb (fun h => by (with_reducible repeat (first | refine zN ?_ _ | refine zD ?_ | refine zA ?_ _)); exact h)
         have n1_ := aK (yT (by repeat (first | (with_reducible first | exact HB.out | apply yA | apply yN | apply yD | refine yS ?_ GE138.out) | exact HB.out)) hb)
         clear BK138
         clear HB
         have BK138 := n0_
         have HB := n1_
         clear n0_ n1_
         (try clear hb)
         (try clear hb2)
         (try clear hk)
         (try clear hi)
         refine hK.out _ _ ⟨(zC BK138.out 0).trans rfl, (zC BK138.out 1).trans rfl, (zC BK138.out 2).trans rfl, (zC BK138.out 3).trans rfl, (zC BK138.out 4).trans rfl, (zC BK138.out 5).trans rfl, ((HB.out.cell (World.block_lt_of_cell? w _ hw146_0)).trans hw146_0), ((HB.out.cell (World.block_lt_of_cell? w _ hw146_1)).trans hw146_1), ((HB.out.cell (World.block_lt_of_cell? w _ hw146_2)).trans hw146_2), ((HB.out.cell (World.block_lt_of_cell? w _ hw146_3)).trans hw146_3)⟩ (fun hHeld => ?_)
         clear hK K
         refine norm_ (a' := ?_) ?_ ?_
         rotate_left
         ·show Act.put _ (some 47) _ = _
          simp only [Act.put, sA, sZ, sS, i64_w, i32_w]
          rfl
         refine pure_ (i := 6) (N := some 48) (v := ?_) (a' := ?_) #[true, true, true, true, true, true, true] rfl rfl (by kernel_rfl) (fun _ _ _ h => h) (Or.inl ⟨by rfl, ?_⟩) ?_ ?_
         rotate_left
         ·intro w'
          go_simp
          with_reducible rfl
         rotate_left
         ·simp only [Act.put, sA, sZ, sS, i64_w, i32_w]
          rfl
         refine done_ (by kernel_rfl) ?_
         try go_wp2
         go_roundg k2
         case measure => have := HK1.out; have := HK2.out; omega
         case rel => exact ⟨(wrap64 (x8_2 + 1)), (by first | rfl | (simp; done) | (simp [*]; done)), H', ⟨by have := HK1.out; have := HK2.out; omega⟩, ⟨by (with_reducible repeat (first | refine zN ?_ _ | refine zD ?_ | refine zA ?_ _)); exact BK138.out⟩, ⟨by repeat (first | (with_reducible first | exact HB.out | apply yA | apply yN | apply yD | refine yS ?_ GE138.out) | exact HB.out)⟩⟩
        ·replace c22 := Bool.eq_false_iff.mpr c22
         subst c22
         have H1 : (some 12) = some r := by rw [if_neg (show ¬ (false = true) by decide)] at H; exact H
         clear H
         have H := H1
         clear H1
         obtain rfl := Option.some.inj H
         simp only [Option.some.injEq, Prod.mk.injEq] at H
         obtain ⟨rfl⟩ := H
         try go_wp2
         have n0_ := aK (zD BK138.out)
         have n1_ := aK (yD HB.out)
         clear BK138
         clear HB
         have BK138 := n0_
         have HB := n1_
         clear n0_ n1_
         have p146 : 0 ≤ (x8_2 : Int) := of_decide_eq_true (by first | (with_reducible assumption) | assumption)
         have q146 : x8_2 < (l0.length : Int) := of_decide_eq_true (by first | (with_reducible assumption) | assumption)
         obtain ⟨ad146, A146_3, c146_3, e146, hx146_0, hx146_1, hx146_2, hx146_3, hl146_3, hi146_3⟩ := at_T33 HR0.out x8_2 p146 q146
         have hw146_3 := hx146_3
         have hw146_2 := hx146_2
         have hw146_1 := hx146_1
         have hw146_0 := hx146_0
         cases e146
         replace hx146_0 := (HB.out.cell (World.block_lt_of_cell? w _ hx146_0)).trans hx146_0
         replace hx146_1 := (HB.out.cell (World.block_lt_of_cell? w _ hx146_1)).trans hx146_1
         replace hx146_2 := (HB.out.cell (World.block_lt_of_cell? w _ hx146_2)).trans hx146_2
         replace hx146_3 := (HB.out.cell (World.block_lt_of_cell? w _ hx146_3)).trans hx146_3
         have HR146_3 := aK hi146_3
         have HC146_3 := aK hl146_3
         clear hi146_3 hl146_3
         replace p146 := eq_true p146
         replace q146 := eq_true q146
         refine start_ (n := 7) (S := fun w' => w'.cell? ⟨gb138, 0, none⟩ = some (.int .i64 a1_0) ∧ w'.cell? ⟨gb138, 1, none⟩ = some (.int .i64 a1_1) ∧ w'.cell? ⟨gb138, 2, none⟩ = some (.int .i64 a1_2) ∧ w'.cell? ⟨gb138, 3, none⟩ = some (.int .i64 a1_3) ∧ w'.cell? ⟨gb138, 4, none⟩ = some (.int .i64 a1_4) ∧ w'.cell? ⟨gb138, 5, none⟩ = some (.int .i64 a1_5) ∧ w'.cell? (ad146.add ((x8_2).toNat * 4)) = some (.string ((rd_T33 l0 x8_2).f0)) ∧ w'.cell? ⟨(ad146.add ((x8_2).toNat * 4)).block, (ad146.add ((x8_2).toNat * 4)).off + 1, none⟩ = some (.int .i64 ((rd_T33 l0 x8_2).f1.f0)) ∧ w'.cell? ⟨(ad146.add ((x8_2).toNat * 4)).block, (ad146.add ((x8_2).toNat * 4)).off + 2, none⟩ = some (.int .i64 ((rd_T33 l0 x8_2).f1.f1)) ∧ w'.cell? ⟨(ad146.add ((x8_2).toNat * 4)).block, (ad146.add ((x8_2).toNat * 4)).off + 3, none⟩ = some (.slice A146_3 ((rd_T33 l0 x8_2).f2).length c146_3)) (ds := []) #[false, false, false, false, false, false, false] (by kernel_rfl) rfl rfl ⟨(zC BK138.out 0).trans rfl, (zC BK138.out 1).trans rfl, (zC BK138.out 2).trans rfl, (zC BK138.out 3).trans rfl, (zC BK138.out 4).trans rfl, (zC BK138.out 5).trans rfl, ((HB.out.cell (World.block_lt_of_cell? w _ hw146_0)).trans hw146_0), ((HB.out.cell (World.block_lt_of_cell? w _ hw146_1)).trans hw146_1), ((HB.out.cell (World.block_lt_of_cell? w _ hw146_2)).trans hw146_2), ((HB.out.cell (World.block_lt_of_cell? w _ hw146_3)).trans hw146_3)⟩ (fun hHeld => ?_)
         generalize wr.drew = w25 at BK138 HB HR146_3 hx146_0 hx146_1 hx146_2 hx146_3 hHeld ⊢
         refine pure_ (i := 0) (N := some 42) (v := ?_) (a' := ?_) #[true, false, false, false, false, false, false] rfl rfl (by kernel_rfl) (fun _ _ _ h => h) (Or.inl ⟨by rfl, ?_⟩) ?_ ?_
         rotate_left
         ·intro w'
          go_simp
          with_reducible rfl
         rotate_left
         ·simp only [Act.put, sA, sZ, sS, i64_w, i32_w]
          rfl
         refine pure_ (i := 1) (N := some 43) (v := ?_) (a' := ?_) #[true, true, false, false, false, false, false] rfl rfl (by kernel_rfl) (fun _ _ _ h => h) (Or.inl ⟨by rfl, ?_⟩) ?_ ?_
         rotate_left
         ·intro w'
          go_simp
          with_reducible rfl
         rotate_left
         ·simp only [Act.put, sA, sZ, sS, i64_w, i32_w]
          rfl
         refine pure_ (i := 2) (N := some 44) (v := ?_) (a' := ?_) #[true, true, true, false, false, false, false] rfl rfl (by kernel_rfl) (fun _ _ _ h => h) (Or.inl ⟨by rfl, ?_⟩) ?_ ?_
         rotate_left
         ·intro w'
          go_simp
          with_reducible rfl
         rotate_left
         ·simp only [Act.put, sA, sZ, sS, i64_w, i32_w]
          rfl
         refine take_ (i := 3) (N := some 45) (v := ?_) (a' := ?_) #[true, true, true, true, false, false, false] rfl rfl (by kernel_rfl) (fun _ _ _ h => h) (Or.inl ⟨by rfl, ?_⟩) hHeld ?_ ?_
         rotate_left
         ·rintro w' ⟨s0, s1, s2, s3, s4, s5, s6, s7, s8, s9⟩
          go_simp
          with_reducible rfl
         rotate_left
         ·simp only [Act.put, sA, sZ, sS, i64_w, i32_w]
          rfl
         refine take_ (i := 4) (N := some 46) (v := ?_) (a' := ?_) #[true, true, true, true, true, false, false] rfl rfl (by kernel_rfl) (fun _ _ _ h => h) (Or.inl ⟨by rfl, ?_⟩) hHeld ?_ ?_
         rotate_left
         ·rintro w' ⟨s0, s1, s2, s3, s4, s5, s6, s7, s8, s9⟩
          go_simp
          with_reducible rfl
         rotate_left
         ·simp only [Act.put, sA, sZ, sS, i64_w, i32_w]
          rfl
         refine one_ (i := 5) (N := some 47) #[true, true, true, true, true, true, false] rfl rfl (by kernel_rfl) (by decide) (fun K hK => ?_)
         refine goes_ Tryz.func91 (by kernel_rfl) rfl #[.agg #[.string ((rd_T33 l0 x8_2).f0), .int .i64 ((rd_T33 l0 x8_2).f1.f0), .int .i64 ((rd_T33 l0 x8_2).f1.f1), .slice A146_3 ((rd_T33 l0 x8_2).f2).length c146_3], .agg #[.int .i64 a1_0, .int .i64 a1_1, .int .i64 a1_2, .int .i64 a1_3, .int .i64 a1_4, .int .i64 a1_5]] (by rfl) rfl rfl (by (try simp only [List.map_toArray, List.map_cons, List.map_nil]); first | done | rfl | (simp only [List.length_drop, List.length_take]; rfl)) ?_
         with_reducible refine (gangsawref14_within.calls k2 ((rd_T33 l0 x8_2).f0) ((rd_T33 l0 x8_2).f1.f0) ((rd_T33 l0 x8_2).f1.f1) _ _ ((rd_T33 l0 x8_2).f2) a1_0 a1_1 a1_2 a1_3 a1_4 a1_5 false _ ?side1 ?side2 A21.out).mono ?_
         (case side1 => repeat (first | exact (Kd.C_below HR146_3.out HB.out) | (with_reducible refine Kd.C_alloc ?_ _) | (with_reducible refine Kd.C_drewN ?_ _) | (with_reducible refine Kd.C_drew ?_)))
         (case side2 => exact HC146_3.out)
         rintro e w26 ⟨rfl, hb⟩
         refine ⟨_, rfl, ?_⟩
         have n0_ := zG BK138 hb (fun h => by (with_reducible repeat (first | refine zN ?_ _ | refine zD ?_ | refine zA ?_ _)); exact h)
         have n1_ := aK (yT (by repeat (first | (with_reducible first | exact HB.out | apply yA | apply yN | apply yD | refine yS ?_ GE138.out) | exact HB.out)) hb)
         clear BK138
         clear HB
         have BK138 := n0_
         have HB := n1_
         clear n0_ n1_
         (try clear hb)
         (try clear hb2)
         (try clear hk)
         (try clear hi)
         refine hK.out _ _ ⟨(zC BK138.out 0).trans rfl, (zC BK138.out 1).trans rfl, (zC BK138.out 2).trans rfl, (zC BK138.out 3).trans rfl, (zC BK138.out 4).trans rfl, (zC BK138.out 5).trans rfl, ((HB.out.cell (World.block_lt_of_cell? w _ hw146_0)).trans hw146_0), ((HB.out.cell (World.block_lt_of_cell? w _ hw146_1)).trans hw146_1), ((HB.out.cell (World.block_lt_of_cell? w _ hw146_2)).trans hw146_2), ((HB.out.cell (World.block_lt_of_cell? w _ hw146_3)).trans hw146_3)⟩ (fun hHeld => ?_)
         clear hK K
         refine norm_ (a' := ?_) ?_ ?_
         rotate_left
         ·show Act.put _ (some 47) _ = _
          simp only [Act.put, sA, sZ, sS, i64_w, i32_w]
          rfl
         refine pure_ (i := 6) (N := some 48) (v := ?_) (a' := ?_) #[true, true, true, true, true, true, true] rfl rfl (by kernel_rfl) (fun _ _ _ h => h) (Or.inl ⟨by rfl, ?_⟩) ?_ ?_
         rotate_left
         ·intro w'
          go_simp
          with_reducible rfl
         rotate_left
         ·simp only [Act.put, sA, sZ, sS, i64_w, i32_w]
          rfl
         refine done_ (by kernel_rfl) ?_
         try go_wp2
         go_ret
         exact ⟨by first | rfl | (simp [errW_none, errW_some] <;> rfl) | (simp [*, errW_none, errW_some] <;> rfl), by repeat (first | (with_reducible first | exact HB.out | apply yA | apply yN | apply yD | refine yS ?_ GE138.out) | exact HB.out)⟩
       ·rw [if_neg c20] at H
        exact absurd H (by simp)
      ·rw [if_neg c19] at H
       have c19b0 : decide (x8_2 < (l0.length : Int)) = false := decide_eq_false c19
       clear c19
       have H' := aK H
       clear H
       go_wp2
       go_loopg [9] k2 (fun kq v9 w' => ∃ (x9_3 : Int), v9 = .int .i64 x9_3 ∧ Aside0 (gangsawref14_all.l3 kq l0 x9_3 = some r) ∧ Aside0 (kq ≤ k2) ∧ Aside0 (w'.heap[gb138]? = some (.cells #[.int .i64 a1_0, .int .i64 a1_1, .int .i64 a1_2, .int .i64 a1_3, .int .i64 a1_4, .int .i64 a1_5] 26 (0, 0))) ∧ Aside0 (Below w.heap.size w w'))
       case atStart => exact ⟨(0), (by first | rfl | (simp; done) | (simp [*]; done)), H', ⟨Nat.le_refl _⟩, ⟨by (with_reducible repeat (first | refine zN ?_ _ | refine zD ?_ | refine zA ?_ _)); exact BK138.out⟩, ⟨by repeat (first | (with_reducible first | exact HB.out | apply yA | apply yN | apply yD | refine yS ?_ GE138.out) | exact HB.out)⟩⟩
       case round =>
        clear H'
        try clear c1
        try clear p1
        try clear q1
        try clear hx1
        try clear c2
        try clear p2
        try clear c4
        try clear c6
        try clear c6b0
        try clear p6
        try clear c8
        try clear c8b0
        try clear c9
        try clear c9b0
        try clear c10
        try clear c10b0
        try clear c11
        try clear c11b0
        try clear c13
        try clear c14
        try clear p14
        try clear q14
        try clear hx14
        try clear c19
        try clear c19b0
        try clear c20
        try clear c20b0
        try clear c22
        try clear hx142_0
        try clear hx142_1
        try clear hx142_2
        try clear hx142_3
        try clear hx143_0
        try clear hx145_0
        try clear hx146_0
        try clear hx146_1
        try clear hx146_2
        try clear hx146_3
        try clear p1
        try clear p14
        try clear p142
        try clear p143
        try clear p145
        try clear p146
        try clear p2
        try clear p6
        try clear q1
        try clear q14
        try clear q142
        try clear q143
        try clear q145
        try clear q146
        obtain ⟨x9_3, rfl, HA, HK3, BK138, HB⟩ := hrel
        cases gk with
        | zero => exact absurd HA.out (by simp [gangsawref14_all.l3])
        | succ k3 =>
         have H := HA.out
         clear HA
         simp only [gangsawref14_all.l3] at H
         by_cases c27 : x9_3 < (l0.length : Int)
         ·rw [if_pos c27] at H
          have c27b0 : decide (x9_3 < (l0.length : Int)) = true := decide_eq_true c27
          clear c27
          by_cases c28 : 0 ≤ x9_3
          ·rw [if_pos c28] at H
           have c28b0 : decide (0 ≤ x9_3) = true := decide_eq_true c28
           clear c28
           replace H := Option.bind_eq_some_iff.mp H
           obtain ⟨t149, A290, H⟩ := H
           replace H : (if t149 = true then (gangsawref14_all.l3 k3 l0 (wrap64 (x9_3 + 1))) else (some 11)) = some r := H
           have A29 := aK A290
           clear A290
           by_cases c30 : t149 = true
           ·subst c30
            have H1 : (gangsawref14_all.l3 k3 l0 (wrap64 (x9_3 + 1))) = some r := by rw [if_pos rfl] at H; exact H
            clear H
            have H := H1
            clear H1
            have H' := aK H
            clear H
            have p148 : 0 ≤ (x9_3 : Int) := of_decide_eq_true (by first | (with_reducible assumption) | assumption)
            have q148 : x9_3 < (l0.length : Int) := of_decide_eq_true (by first | (with_reducible assumption) | assumption)
            obtain ⟨ad148, A148_3, c148_3, e148, hx148_0, hx148_1, hx148_2, hx148_3, hl148_3, hi148_3⟩ := at_T33 HR0.out x9_3 p148 q148
            cases e148
            replace hx148_0 := (HB.out.cell (World.block_lt_of_cell? w _ hx148_0)).trans hx148_0
            replace hx148_1 := (HB.out.cell (World.block_lt_of_cell? w _ hx148_1)).trans hx148_1
            replace hx148_2 := (HB.out.cell (World.block_lt_of_cell? w _ hx148_2)).trans hx148_2
            replace hx148_3 := (HB.out.cell (World.block_lt_of_cell? w _ hx148_3)).trans hx148_3
            have HR148_3 := aK hi148_3
            have HC148_3 := aK hl148_3
            clear hi148_3 hl148_3
            replace p148 := eq_true p148
            replace q148 := eq_true q148
            go_wp2_with (first | ((with_reducible refine gate_callee (f := 55) rfl ?_); refine goesL_ (some 59) rfl rfl Tryz.func55 (by kernel_rfl) rfl #[.agg #[.string ((rd_T33 l0 x9_3).f0), .int .i64 ((rd_T33 l0 x9_3).f1.f0), .int .i64 ((rd_T33 l0 x9_3).f1.f1), .slice A148_3 ((rd_T33 l0 x9_3).f2).length c148_3]] rfl (by (try simp only [List.map_toArray, List.map_cons, List.map_nil]); first | done | rfl | (simp only [List.length_drop, List.length_take]; rfl)) ?_; (with_reducible refine (gangsawref14_stacked.calls k3 ((rd_T33 l0 x9_3).f0) ((rd_T33 l0 x9_3).f1.f0) ((rd_T33 l0 x9_3).f1.f1) _ _ ((rd_T33 l0 x9_3).f2) true _ ?side1 ?side2 A29.out).mono ?_); (case side1 => repeat (first | exact (Kd.C_below HR148_3.out HB.out) | (with_reducible refine Kd.C_alloc ?_ _) | (with_reducible refine Kd.C_drewN ?_ _) | (with_reducible refine Kd.C_drew ?_))); (case side2 => exact HC148_3.out); rintro e w31 ⟨rfl, hb⟩; refine ⟨_, rfl, ?_⟩; have n0_ := zG BK138 hb (fun h => by (with_reducible repeat (first | refine zN ?_ _ | refine zD ?_ | refine zA ?_ _)); exact h); have n1_ := aK (yT (by repeat (first | (with_reducible first | exact HB.out | apply yA | apply yN | apply yD | refine yS ?_ GE138.out) | exact HB.out)) hb); clear BK138; clear HB; have BK138 := n0_; have HB := n1_; clear n0_ n1_; (try clear hb); (try clear hb2); (try clear hk); (try clear hi)))
            go_roundg k3
            case measure => have := HK1.out; have := HK2.out; have := HK3.out; omega
            case rel => exact ⟨(wrap64 (x9_3 + 1)), (by first | rfl | (simp; done) | (simp [*]; done)), H', ⟨by have := HK1.out; have := HK2.out; have := HK3.out; omega⟩, ⟨by (with_reducible repeat (first | refine zN ?_ _ | refine zD ?_ | refine zA ?_ _)); exact BK138.out⟩, ⟨by repeat (first | (with_reducible first | exact HB.out | apply yA | apply yN | apply yD | refine yS ?_ GE138.out) | exact HB.out)⟩⟩
           ·replace c30 := Bool.eq_false_iff.mpr c30
            subst c30
            have H1 : (some 11) = some r := by rw [if_neg (show ¬ (false = true) by decide)] at H; exact H
            clear H
            have H := H1
            clear H1
            obtain rfl := Option.some.inj H
            simp only [Option.some.injEq, Prod.mk.injEq] at H
            obtain ⟨rfl⟩ := H
            have p148 : 0 ≤ (x9_3 : Int) := of_decide_eq_true (by first | (with_reducible assumption) | assumption)
            have q148 : x9_3 < (l0.length : Int) := of_decide_eq_true (by first | (with_reducible assumption) | assumption)
            obtain ⟨ad148, A148_3, c148_3, e148, hx148_0, hx148_1, hx148_2, hx148_3, hl148_3, hi148_3⟩ := at_T33 HR0.out x9_3 p148 q148
            cases e148
            replace hx148_0 := (HB.out.cell (World.block_lt_of_cell? w _ hx148_0)).trans hx148_0
            replace hx148_1 := (HB.out.cell (World.block_lt_of_cell? w _ hx148_1)).trans hx148_1
            replace hx148_2 := (HB.out.cell (World.block_lt_of_cell? w _ hx148_2)).trans hx148_2
            replace hx148_3 := (HB.out.cell (World.block_lt_of_cell? w _ hx148_3)).trans hx148_3
            have HR148_3 := aK hi148_3
            have HC148_3 := aK hl148_3
            clear hi148_3 hl148_3
            replace p148 := eq_true p148
            replace q148 := eq_true q148
            go_wp2_with (first | ((with_reducible refine gate_callee (f := 55) rfl ?_); refine goesL_ (some 59) rfl rfl Tryz.func55 (by kernel_rfl) rfl #[.agg #[.string ((rd_T33 l0 x9_3).f0), .int .i64 ((rd_T33 l0 x9_3).f1.f0), .int .i64 ((rd_T33 l0 x9_3).f1.f1), .slice A148_3 ((rd_T33 l0 x9_3).f2).length c148_3]] rfl (by (try simp only [List.map_toArray, List.map_cons, List.map_nil]); first | done | rfl | (simp only [List.length_drop, List.length_take]; rfl)) ?_; (with_reducible refine (gangsawref14_stacked.calls k3 ((rd_T33 l0 x9_3).f0) ((rd_T33 l0 x9_3).f1.f0) ((rd_T33 l0 x9_3).f1.f1) _ _ ((rd_T33 l0 x9_3).f2) false _ ?side1 ?side2 A29.out).mono ?_); (case side1 => repeat (first | exact (Kd.C_below HR148_3.out HB.out) | (with_reducible refine Kd.C_alloc ?_ _) | (with_reducible refine Kd.C_drewN ?_ _) | (with_reducible refine Kd.C_drew ?_))); (case side2 => exact HC148_3.out); rintro e w32 ⟨rfl, hb⟩; refine ⟨_, rfl, ?_⟩; have n0_ := zG BK138 hb (fun h => by (with_reducible repeat (first | refine zN ?_ _ | refine zD ?_ | refine zA ?_ _)); exact h); have n1_ := aK (yT (by repeat (first | (with_reducible first | exact HB.out | apply yA | apply yN | apply yD | refine yS ?_ GE138.out) | exact HB.out)) hb); clear BK138; clear HB; have BK138 := n0_; have HB := n1_; clear n0_ n1_; (try clear hb); (try clear hb2); (try clear hk); (try clear hi)))
            go_ret
            exact ⟨by first | rfl | (simp [errW_none, errW_some] <;> rfl) | (simp [*, errW_none, errW_some] <;> rfl), by repeat (first | (with_reducible first | exact HB.out | apply yA | apply yN | apply yD | refine yS ?_ GE138.out) | exact HB.out)⟩
          ·rw [if_neg c28] at H
           exact absurd H (by simp)
         ·rw [if_neg c27] at H
          have c27b0 : decide (x9_3 < (l0.length : Int)) = false := decide_eq_false c27
          clear c27
          obtain rfl := Option.some.inj H
          simp only [Option.some.injEq, Prod.mk.injEq] at H
          obtain ⟨rfl⟩ := H
          go_wp2
          go_ret
          exact ⟨by first | rfl | (simp [errW_none, errW_some] <;> rfl) | (simp [*, errW_none, errW_some] <;> rfl), by repeat (first | (with_reducible first | exact HB.out | apply yA | apply yN | apply yD | refine yS ?_ GE138.out) | exact HB.out)⟩

end Go.Proofs.YtfedmcehkpfciaaGreat.P
