/- What functions of the program return: each contract says so of one function, for every input at which its pure function yields. -/
import Derived.Test.YtkdbcaegeeeiaaaGreatPx0
import Derived.Test.YtkdbcaegeeeiaaaGreatPx9
import Derived.Test.YtkdbcaegeeeiaaaGreatPx10
import Derived.Test.YtkdbcaegeeeiaaaGreatPx11
import Derived.Test.YtkdbcaegeeeiaaaGreatAwk
namespace Go.Proofs.YtkdbcaegeeeiaaaGreat.P
open Go.RowKit Go.Proofs.YtkdbcaegeeeiaaaGreatW.PrintWords Go.Proofs.YtkdbcaegeeeiaaaGreatW.PrintLast Go.Proofs.YtkdbcaegeeeiaaaGreatW.PrintMore
attribute [local go_sem] max2_int min2_int max_two min_two max_three min_three max_four min_four   -- for this text's walks alone
set_option linter.unusedVariables false
set_option linter.unusedSimpArgs false

open Go.Proofs.YtkdbcaegeeeiaaaGreat.Awk
mutual
def gangsawlaw52_CriticalSteps.j0 : Nat → List Int → List Int → Int → Int → Bool → ByteArray → List (S40) → Int → Int → Int → Option (Bool)
 | 0, _, _, _, _, _, _, _, _, _, _ => none
 | k + 1, x3, x5, x7, x9, x45, x227000, x227001, x227002, x227003, x227004 => if x45 = true then (some false) else (if x9 = 0 then (if (x3.length : Int) = (x227001.length : Int) then (if (x5.length : Int) = (x227001.length : Int) then ((gangsawref52_Chain.f k x227000 x227001 x227002 x227003 x227004).bind fun t240 => (gangsawlaw52_CriticalSteps.j1 k x3 x5 x7 (x7 != t240) x227000 x227001 x227002 x227003 x227004)) else (gangsawlaw52_CriticalSteps.j1 k x3 x5 x7 true x227000 x227001 x227002 x227003 x227004)) else (gangsawlaw52_CriticalSteps.j1 k x3 x5 x7 true x227000 x227001 x227002 x227003 x227004)) else ((gangsawlaw52_awake.f).bind fun t239 => (if t239 = true then (if (x3.length : Int) = 0 then (if (x5.length : Int) = 0 then (some (x7 == 0)) else (some false)) else (some false)) else (some false))))
def gangsawlaw52_CriticalSteps.j1 : Nat → List Int → List Int → Int → Bool → ByteArray → List (S40) → Int → Int → Int → Option (Bool)
 | 0, _, _, _, _, _, _, _, _, _ => none
 | k + 1, x3, x5, x7, x82, x227000, x227001, x227002, x227003, x227004 => if x82 = true then (some false) else (gangsawlaw52_CriticalSteps.l0 k x3 x5 x7 0 x227000 x227001 x227002 x227003 x227004)
def gangsawlaw52_CriticalSteps.l0 : Nat → List Int → List Int → Int → Int → ByteArray → List (S40) → Int → Int → Int → Option (Bool)
 | 0, _, _, _, _, _, _, _, _, _ => none
 | k + 1, x3, x5, x7, x10, x227000, x227001, x227002, x227003, x227004 => if x10 < (x3.length : Int) then (if 0 ≤ x10 then ((gangsawref52_Head.f k x227000 x227001 x227002 x227003 x227004 x10).bind fun t243 => (if (rd x3 x10) = t243 then (if x10 < (x5.length : Int) then ((gangsawref52_Tail.f k x227000 x227001 x227002 x227003 x227004 x10).bind fun t245 => (if (rd x5 x10) = t245 then (if x10 < (x227001.length : Int) then (if (wrap64 ((wrap64 ((rd x3 x10) + ((rd_T40 x227001 x10).f1))) + (rd x5 x10))) = x7 then (gangsawlaw52_CriticalSteps.l0 k x3 x5 x7 (wrap64 (x10 + 1)) x227000 x227001 x227002 x227003 x227004) else (some false)) else (none)) else (some false))) else (none)) else (some false))) else (none)) else ((gangsawlaw52_awake.f).bind fun t241 => (some t241))
end
def gangsawlaw52_CriticalSteps.f (k : Nat) (a0_0 : ByteArray) (l0_1 : List (S40)) (a0_2 : Int) (a0_3 : Int) (a0_4 : Int) : Option (Bool) := if (l0_1.length : Int) > 20 then ((gangsawlaw52_awake.f).bind fun t227 => (some t227)) else ((critical_Heads.f k a0_0 l0_1 a0_2 a0_3 a0_4).bind fun bt228 => ((critical_Tails.f k a0_0 l0_1 a0_2 a0_3 a0_4).bind fun bt232 => ((critical_Chain.f k a0_0 l0_1 a0_2 a0_3 a0_4).bind fun bt236 => ((gangsawref52_Alone.f k a0_0 l0_1 a0_2 a0_3 a0_4).bind fun t238 => (if bt228.2 = t238 then (if bt232.2 = t238 then (gangsawlaw52_CriticalSteps.j0 k bt228.1 bt232.1 bt236.1 t238 (bt236.2 != t238) a0_0 l0_1 a0_2 a0_3 a0_4) else (gangsawlaw52_CriticalSteps.j0 k bt228.1 bt232.1 bt236.1 t238 true a0_0 l0_1 a0_2 a0_3 a0_4)) else (gangsawlaw52_CriticalSteps.j0 k bt228.1 bt232.1 bt236.1 t238 true a0_0 l0_1 a0_2 a0_3 a0_4))))))
theorem gangsawlaw52_CriticalSteps.mono_l : ∀ k, (∀ y0 y1 y2 y3 y4 y5 y6 y7 y8 y9, LeO (gangsawlaw52_CriticalSteps.j0 k y0 y1 y2 y3 y4 y5 y6 y7 y8 y9) (gangsawlaw52_CriticalSteps.j0 (k + 1) y0 y1 y2 y3 y4 y5 y6 y7 y8 y9)) ∧ (∀ y0 y1 y2 y3 y4 y5 y6 y7 y8, LeO (gangsawlaw52_CriticalSteps.j1 k y0 y1 y2 y3 y4 y5 y6 y7 y8) (gangsawlaw52_CriticalSteps.j1 (k + 1) y0 y1 y2 y3 y4 y5 y6 y7 y8)) ∧ (∀ y0 y1 y2 y3 y4 y5 y6 y7 y8, LeO (gangsawlaw52_CriticalSteps.l0 k y0 y1 y2 y3 y4 y5 y6 y7 y8) (gangsawlaw52_CriticalSteps.l0 (k + 1) y0 y1 y2 y3 y4 y5 y6 y7 y8))
 | 0 => ⟨fun _ _ _ _ _ _ _ _ _ _ r h => by simp [gangsawlaw52_CriticalSteps.j0] at h, fun _ _ _ _ _ _ _ _ _ r h => by simp [gangsawlaw52_CriticalSteps.j1] at h, fun _ _ _ _ _ _ _ _ _ r h => by simp [gangsawlaw52_CriticalSteps.l0] at h⟩
 | k + 1 => by
  obtain ⟨ih0, ih1, ih2⟩ := gangsawlaw52_CriticalSteps.mono_l k
  refine ⟨?_, ?_, ?_⟩
  ·intro y0 y1 y2 y3 y4 y5 y6 y7 y8 y9
   unfold gangsawlaw52_CriticalSteps.j0
   repeat' first
   | (with_reducible exact ih0 _ _ _ _ _ _ _ _ _ _)
   | (with_reducible exact ih1 _ _ _ _ _ _ _ _ _)
   | (with_reducible exact ih2 _ _ _ _ _ _ _ _ _)
   | (with_reducible exact critical_Chain.mono _ _ _ _ _ _)
   | (with_reducible exact critical_Heads.mono _ _ _ _ _ _)
   | (with_reducible exact critical_Tails.mono _ _ _ _ _ _)
   | (with_reducible exact gangsawref52_Alone.mono _ _ _ _ _ _)
   | (with_reducible exact gangsawref52_Chain.mono _ _ _ _ _ _)
   | (with_reducible exact gangsawref52_Head.mono _ _ _ _ _ _ _)
   | (with_reducible exact gangsawref52_Tail.mono _ _ _ _ _ _ _)
   | (with_reducible exact LeO.refl _)
   | (with_reducible exact LeO.none _)
   | (with_reducible refine LeO.ite ?_ ?_)
   | (with_reducible refine LeO.bind ?_ (fun _ => ?_))
   | exact ih0 _ _ _ _ _ _ _ _ _ _
   | exact ih1 _ _ _ _ _ _ _ _ _
   | exact ih2 _ _ _ _ _ _ _ _ _
   | exact critical_Chain.mono _ _ _ _ _ _
   | exact critical_Heads.mono _ _ _ _ _ _
   | exact critical_Tails.mono _ _ _ _ _ _
   | exact gangsawref52_Alone.mono _ _ _ _ _ _
   | exact gangsawref52_Chain.mono _ _ _ _ _ _
   | exact gangsawref52_Head.mono _ _ _ _ _ _ _
   | exact gangsawref52_Tail.mono _ _ _ _ _ _ _
   | exact LeO.none _
   | refine LeO.ite ?_ ?_
   | refine LeO.bind ?_ (fun _ => ?_)
  ·intro y0 y1 y2 y3 y4 y5 y6 y7 y8
   unfold gangsawlaw52_CriticalSteps.j1
   repeat' first
   | (with_reducible exact ih0 _ _ _ _ _ _ _ _ _ _)
   | (with_reducible exact ih1 _ _ _ _ _ _ _ _ _)
   | (with_reducible exact ih2 _ _ _ _ _ _ _ _ _)
   | (with_reducible exact critical_Chain.mono _ _ _ _ _ _)
   | (with_reducible exact critical_Heads.mono _ _ _ _ _ _)
   | (with_reducible exact critical_Tails.mono _ _ _ _ _ _)
   | (with_reducible exact gangsawref52_Alone.mono _ _ _ _ _ _)
   | (with_reducible exact gangsawref52_Chain.mono _ _ _ _ _ _)
   | (with_reducible exact gangsawref52_Head.mono _ _ _ _ _ _ _)
   | (with_reducible exact gangsawref52_Tail.mono _ _ _ _ _ _ _)
   | (with_reducible exact LeO.refl _)
   | (with_reducible exact LeO.none _)
   | (with_reducible refine LeO.ite ?_ ?_)
   | (with_reducible refine LeO.bind ?_ (fun _ => ?_))
   | exact ih0 _ _ _ _ _ _ _ _ _ _
   | exact ih1 _ _ _ _ _ _ _ _ _
   | exact ih2 _ _ _ _ _ _ _ _ _
   | exact critical_Chain.mono _ _ _ _ _ _
   | exact critical_Heads.mono _ _ _ _ _ _
   | exact critical_Tails.mono _ _ _ _ _ _
   | exact gangsawref52_Alone.mono _ _ _ _ _ _
   | exact gangsawref52_Chain.mono _ _ _ _ _ _
   | exact gangsawref52_Head.mono _ _ _ _ _ _ _
   | exact gangsawref52_Tail.mono _ _ _ _ _ _ _
   | exact LeO.none _
   | refine LeO.ite ?_ ?_
   | refine LeO.bind ?_ (fun _ => ?_)
  ·intro y0 y1 y2 y3 y4 y5 y6 y7 y8
   unfold gangsawlaw52_CriticalSteps.l0
   repeat' first
   | (with_reducible exact ih0 _ _ _ _ _ _ _ _ _ _)
   | (with_reducible exact ih1 _ _ _ _ _ _ _ _ _)
   | (with_reducible exact ih2 _ _ _ _ _ _ _ _ _)
   | (with_reducible exact critical_Chain.mono _ _ _ _ _ _)
   | (with_reducible exact critical_Heads.mono _ _ _ _ _ _)
   | (with_reducible exact critical_Tails.mono _ _ _ _ _ _)
   | (with_reducible exact gangsawref52_Alone.mono _ _ _ _ _ _)
   | (with_reducible exact gangsawref52_Chain.mono _ _ _ _ _ _)
   | (with_reducible exact gangsawref52_Head.mono _ _ _ _ _ _ _)
   | (with_reducible exact gangsawref52_Tail.mono _ _ _ _ _ _ _)
   | (with_reducible exact LeO.refl _)
   | (with_reducible exact LeO.none _)
   | (with_reducible refine LeO.ite ?_ ?_)
   | (with_reducible refine LeO.bind ?_ (fun _ => ?_))
   | exact ih0 _ _ _ _ _ _ _ _ _ _
   | exact ih1 _ _ _ _ _ _ _ _ _
   | exact ih2 _ _ _ _ _ _ _ _ _
   | exact critical_Chain.mono _ _ _ _ _ _
   | exact critical_Heads.mono _ _ _ _ _ _
   | exact critical_Tails.mono _ _ _ _ _ _
   | exact gangsawref52_Alone.mono _ _ _ _ _ _
   | exact gangsawref52_Chain.mono _ _ _ _ _ _
   | exact gangsawref52_Head.mono _ _ _ _ _ _ _
   | exact gangsawref52_Tail.mono _ _ _ _ _ _ _
   | exact LeO.none _
   | refine LeO.ite ?_ ?_
   | refine LeO.bind ?_ (fun _ => ?_)
theorem gangsawlaw52_CriticalSteps.mono : ∀ a0 a1 a2 a3 a4 k, LeO (gangsawlaw52_CriticalSteps.f k a0 a1 a2 a3 a4) (gangsawlaw52_CriticalSteps.f (k + 1) a0 a1 a2 a3 a4) := by
 intro a0 a1 a2 a3 a4 k
 obtain ⟨ih0, ih1, ih2⟩ := gangsawlaw52_CriticalSteps.mono_l k
 unfold gangsawlaw52_CriticalSteps.f
 repeat' first
   | (with_reducible exact ih0 _ _ _ _ _ _ _ _ _ _)
   | (with_reducible exact ih1 _ _ _ _ _ _ _ _ _)
   | (with_reducible exact ih2 _ _ _ _ _ _ _ _ _)
   | (with_reducible exact critical_Chain.mono _ _ _ _ _ _)
   | (with_reducible exact critical_Heads.mono _ _ _ _ _ _)
   | (with_reducible exact critical_Tails.mono _ _ _ _ _ _)
   | (with_reducible exact gangsawref52_Alone.mono _ _ _ _ _ _)
   | (with_reducible exact gangsawref52_Chain.mono _ _ _ _ _ _)
   | (with_reducible exact gangsawref52_Head.mono _ _ _ _ _ _ _)
   | (with_reducible exact gangsawref52_Tail.mono _ _ _ _ _ _ _)
   | (with_reducible exact LeO.refl _)
   | (with_reducible exact LeO.none _)
   | (with_reducible refine LeO.ite ?_ ?_)
   | (with_reducible refine LeO.bind ?_ (fun _ => ?_))
   | exact ih0 _ _ _ _ _ _ _ _ _ _
   | exact ih1 _ _ _ _ _ _ _ _ _
   | exact ih2 _ _ _ _ _ _ _ _ _
   | exact critical_Chain.mono _ _ _ _ _ _
   | exact critical_Heads.mono _ _ _ _ _ _
   | exact critical_Tails.mono _ _ _ _ _ _
   | exact gangsawref52_Alone.mono _ _ _ _ _ _
   | exact gangsawref52_Chain.mono _ _ _ _ _ _
   | exact gangsawref52_Head.mono _ _ _ _ _ _ _
   | exact gangsawref52_Tail.mono _ _ _ _ _ _ _
   | exact LeO.none _
   | refine LeO.ite ?_ ?_
   | refine LeO.bind ?_ (fun _ => ?_)
def gangsawlaw52_CriticalSteps.T16 : Bool × List (List Nat × List Nat) := (true, [([], []), ([], []), ([0, 1], [0, 1]), ([2], [2]), ([], []), ([], []), ([4, 5], [4, 5]), ([3, 6], [3, 6]), ([7, 6], [7]), ([8], [8]), ([8], [8]), ([9, 10, 8], [8, 9, 10]), ([11, 8], [8, 11]), ([8], [8]), ([8], [8]), ([13, 14, 8, 8], [8, 13, 14]), ([12, 15, 8], [8, 12, 15]), ([8, 16], [8, 16]), ([17, 15], [17]), ([18], [18]), ([18], [18]), ([19, 20, 18], [18, 19, 20]), ([21, 18], [18, 21]), ([18], [18]), ([23, 18], [18, 23]), ([18], [18]), ([24, 25, 18], [18, 24, 25]), ([26, 18], [18, 26]), ([27, 18], [18, 27]), ([22, 28, 18], [18, 22, 28]), ([18], [18]), ([18], [18]), ([30, 31, 18], [18, 30, 31]), ([32, 18], [18, 32]), ([29, 33, 18], [18, 29, 33]), ([18], [18]), ([34, 35, 18], [18, 34, 35]), ([18, 36], [18, 36])])
def gangsawlaw52_CriticalSteps.B16 : List Nat := [0, 0, 3, 7, 0, 0, 48, 127, 255, 511, 511, 2047, 4095, 511, 511, 25087, 65535, 131071, 262143, 524287, 524287, 2097151, 4194303, 524287, 8912895, 524287, 59244543, 126353407, 260571135, 536870911, 524287, 524287, 3221749759, 7516717055, 17179869183, 524287, 68719476735, 137438953471]
theorem gangsawlaw52_CriticalSteps.tab16 : rtab .any (opsOf Tryz.f10 16) = gangsawlaw52_CriticalSteps.T16 := by kernel_rfl
theorem gangsawlaw52_CriticalSteps.bits16 : waitsOk gangsawlaw52_CriticalSteps.T16.2 gangsawlaw52_CriticalSteps.B16 = true := by kernel_rfl
set_option maxHeartbeats 8000000 in
set_option maxRecDepth 100000 in
theorem gangsawlaw52_CriticalSteps.calls (k : Nat) (a0_0 : ByteArray) (A0_1 : Option Addr) (c0_1 : Nat) (l0_1 : List (S40)) (a0_2 : Int) (a0_3 : Int) (a0_4 : Int) (r : Bool) (w : World) (hr0_1 : Kd.C k40 w A0_1 l0_1.length l0_1) (hc0_1 : l0_1.length ≤ c0_1) (h : gangsawlaw52_CriticalSteps.f k a0_0 l0_1 a0_2 a0_3 a0_4 = some r) (hr : r = true) :
  Calls Tryz.prog 10 #[.agg #[.string a0_0, .slice A0_1 l0_1.length c0_1, .int .i64 a0_2, .int .i64 a0_3, .int .i64 a0_4]] w fun e w' => e = .returned (.bool r) ∧ Below w.heap.size w w' := by
 have hu38 := Tryz.underlying38
 have HR0_1 := aK hr0_1
 have HC0_1 := aK hc0_1
 clear hr0_1 hc0_1
 have HB := aK (Below.refl w.heap.size w)
 have H : (if (l0_1.length : Int) > 20 then ((gangsawlaw52_awake.f).bind fun t227 => (some t227)) else ((critical_Heads.f k a0_0 l0_1 a0_2 a0_3 a0_4).bind fun bt228 => ((critical_Tails.f k a0_0 l0_1 a0_2 a0_3 a0_4).bind fun bt232 => ((critical_Chain.f k a0_0 l0_1 a0_2 a0_3 a0_4).bind fun bt236 => ((gangsawref52_Alone.f k a0_0 l0_1 a0_2 a0_3 a0_4).bind fun t238 => (if bt228.2 = t238 then (if bt232.2 = t238 then (gangsawlaw52_CriticalSteps.j0 k bt228.1 bt232.1 bt236.1 t238 (bt236.2 != t238) a0_0 l0_1 a0_2 a0_3 a0_4) else (gangsawlaw52_CriticalSteps.j0 k bt228.1 bt232.1 bt236.1 t238 true a0_0 l0_1 a0_2 a0_3 a0_4)) else (gangsawlaw52_CriticalSteps.j0 k bt228.1 bt232.1 bt236.1 t238 true a0_0 l0_1 a0_2 a0_3 a0_4))))))) = some r := h
 clear h
 by_cases c2 : (l0_1.length : Int) > 20
 ·rw [if_pos c2] at H
  have c2b0 : decide (20 < (l0_1.length : Int)) = true := decide_eq_true c2
  have c2b1 : decide (20 < l0_1.length) = true := decide_eq_true (by omega)
  clear c2
  replace H := Option.bind_eq_some_iff.mp H
  obtain ⟨t227, A30, H⟩ := H
  replace H : (some t227) = some r := H
  have A3 := aK A30
  clear A30
  obtain rfl := Option.some.inj H
  simp only [Option.some.injEq, Prod.mk.injEq] at H
  obtain ⟨rfl⟩ := H
  go_enter Tryz.func10, Tryz.ntmps10
  go_wp2_with (first | ((with_reducible refine gate_dst (N := 1) rfl ?_); (try (refine gate_guard (by rfl) ?_; dsimp only)); refine box_event ?hg (N := 1) ?hd (cs := #[.string a0_0, .slice A0_1 l0_1.length c0_1, .int .i64 a0_2, .int .i64 a0_3, .int .i64 a0_4]) (t := 38) ?hr ?_; (case hd => rfl); (case hg => rfl); (case hr => first | (go_simp; done) | (go_simp; rfl)); intro gb226 hg w4 hbox hb; have ⟨n0_, n2_⟩ := zV (w := w) hb hg (by repeat (first | (with_reducible first | exact HB.out | apply yA | apply yN | apply yD) | exact HB.out)); have n1_ := aK (hbox); have n3_ := n2_; clear HB; have HB := n0_; have BK226 := n1_; have GW226 := n2_; have GE226 := n3_; clear n0_ n1_ n2_ n3_; clear hb hbox hg; have hcz5_0 := zI BK226 0 rfl; have hcz5_1 := zI BK226 1 rfl; have hcz5_2 := zI BK226 2 rfl; have hcz5_3 := zI BK226 3 rfl; have hcz5_4 := zI BK226 4 rfl; have hfz5_0 := zF BK226.out 0; have hfz5_1 := zF BK226.out 1; have hfz5_2 := zF BK226.out 2; have hfz5_3 := zF BK226.out 3; have hfz5_4 := zF BK226.out 4) | ((with_reducible refine gate_callee (f := 41) rfl ?_); refine goesL_ (some 15) rfl rfl Tryz.func41 (by kernel_rfl) rfl #[] rfl (by (try simp only [List.map_toArray, List.map_cons, List.map_nil]); first | done | rfl | (simp only [List.length_drop, List.length_take]; rfl)) ?_; (with_reducible refine (gangsawlaw52_awake.calls  t227 _ A3.out).mono ?_); rintro e w6 ⟨rfl, hb⟩; refine ⟨_, rfl, ?_⟩; have n0_ := zG BK226 hb (fun h => by (with_reducible repeat (first | refine zN ?_ _ | refine zD ?_ | refine zA ?_ _)); exact h); have n1_ := aK (yT (by repeat (first | (with_reducible first | exact HB.out | apply yA | apply yN | apply yD | refine yS ?_ GE226.out) | exact HB.out)) hb); clear BK226; clear HB; have BK226 := n0_; have HB := n1_; clear n0_ n1_; (try clear hb); (try clear hb2); (try clear hk); (try clear hi)))
  go_ret
  exact ⟨by first | rfl | (simp [errW_none, errW_some] <;> rfl) | (simp [*, errW_none, errW_some] <;> rfl), by repeat (first | (with_reducible first | exact HB.out | apply yA | apply yN | apply yD | refine yS ?_ GE226.out) | exact HB.out)⟩
 ·rw [if_neg c2] at H
  have c2b0 : decide (20 < (l0_1.length : Int)) = false := decide_eq_false c2
  have c2b1 : decide (20 < l0_1.length) = false := decide_eq_false (by omega)
  clear c2
  replace H := Option.bind_eq_some_iff.mp H
  obtain ⟨⟨t228, t231⟩, A70, H⟩ := H
  replace H : ((critical_Tails.f k a0_0 l0_1 a0_2 a0_3 a0_4).bind fun bt232 => ((critical_Chain.f k a0_0 l0_1 a0_2 a0_3 a0_4).bind fun bt236 => ((gangsawref52_Alone.f k a0_0 l0_1 a0_2 a0_3 a0_4).bind fun t238 => (if t231 = t238 then (if bt232.2 = t238 then (gangsawlaw52_CriticalSteps.j0 k t228 bt232.1 bt236.1 t238 (bt236.2 != t238) a0_0 l0_1 a0_2 a0_3 a0_4) else (gangsawlaw52_CriticalSteps.j0 k t228 bt232.1 bt236.1 t238 true a0_0 l0_1 a0_2 a0_3 a0_4)) else (gangsawlaw52_CriticalSteps.j0 k t228 bt232.1 bt236.1 t238 true a0_0 l0_1 a0_2 a0_3 a0_4))))) = some r := H
  have A7 := aK A70
  clear A70
  replace H := Option.bind_eq_some_iff.mp H
  obtain ⟨⟨t232, t235⟩, A80, H⟩ := H
  replace H : ((critical_Chain.f k a0_0 l0_1 a0_2 a0_3 a0_4).bind fun bt236 => ((gangsawref52_Alone.f k a0_0 l0_1 a0_2 a0_3 a0_4).bind fun t238 => (if t231 = t238 then (if t235 = t238 then (gangsawlaw52_CriticalSteps.j0 k t228 t232 bt236.1 t238 (bt236.2 != t238) a0_0 l0_1 a0_2 a0_3 a0_4) else (gangsawlaw52_CriticalSteps.j0 k t228 t232 bt236.1 t238 true a0_0 l0_1 a0_2 a0_3 a0_4)) else (gangsawlaw52_CriticalSteps.j0 k t228 t232 bt236.1 t238 true a0_0 l0_1 a0_2 a0_3 a0_4)))) = some r := H
  have A8 := aK A80
  clear A80
  replace H := Option.bind_eq_some_iff.mp H
  obtain ⟨⟨t236, t237⟩, A90, H⟩ := H
  replace H : ((gangsawref52_Alone.f k a0_0 l0_1 a0_2 a0_3 a0_4).bind fun t238 => (if t231 = t238 then (if t235 = t238 then (gangsawlaw52_CriticalSteps.j0 k t228 t232 t236 t238 (t237 != t238) a0_0 l0_1 a0_2 a0_3 a0_4) else (gangsawlaw52_CriticalSteps.j0 k t228 t232 t236 t238 true a0_0 l0_1 a0_2 a0_3 a0_4)) else (gangsawlaw52_CriticalSteps.j0 k t228 t232 t236 t238 true a0_0 l0_1 a0_2 a0_3 a0_4))) = some r := H
  have A9 := aK A90
  clear A90
  replace H := Option.bind_eq_some_iff.mp H
  obtain ⟨t238, A100, H⟩ := H
  replace H : (if t231 = t238 then (if t235 = t238 then (gangsawlaw52_CriticalSteps.j0 k t228 t232 t236 t238 (t237 != t238) a0_0 l0_1 a0_2 a0_3 a0_4) else (gangsawlaw52_CriticalSteps.j0 k t228 t232 t236 t238 true a0_0 l0_1 a0_2 a0_3 a0_4)) else (gangsawlaw52_CriticalSteps.j0 k t228 t232 t236 t238 true a0_0 l0_1 a0_2 a0_3 a0_4)) = some r := H
  have A10 := aK A100
  clear A100
  have HC11 := aK H
  clear H
  go_enter Tryz.func10, Tryz.ntmps10
  go_upto_region 7 with (first | ((with_reducible refine gate_dst (N := 1) rfl ?_); (try (refine gate_guard (by rfl) ?_; dsimp only)); refine box_event ?hg (N := 1) ?hd (cs := #[.string a0_0, .slice A0_1 l0_1.length c0_1, .int .i64 a0_2, .int .i64 a0_3, .int .i64 a0_4]) (t := 38) ?hr ?_; (case hd => rfl); (case hg => rfl); (case hr => first | (go_simp; done) | (go_simp; rfl)); intro gb226 hg w12 hbox hb; have ⟨n0_, n2_⟩ := zV (w := w) hb hg (by repeat (first | (with_reducible first | exact HB.out | apply yA | apply yN | apply yD) | exact HB.out)); have n1_ := aK (hbox); have n3_ := n2_; clear HB; have HB := n0_; have BK226 := n1_; have GW226 := n2_; have GE226 := n3_; clear n0_ n1_ n2_ n3_; clear hb hbox hg; have hcz13_0 := zI BK226 0 rfl; have hcz13_1 := zI BK226 1 rfl; have hcz13_2 := zI BK226 2 rfl; have hcz13_3 := zI BK226 3 rfl; have hcz13_4 := zI BK226 4 rfl; have hfz13_0 := zF BK226.out 0; have hfz13_1 := zF BK226.out 1; have hfz13_2 := zF BK226.out 2; have hfz13_3 := zF BK226.out 3; have hfz13_4 := zF BK226.out 4) | ((with_reducible refine gate_callee (f := 42) rfl ?_); refine goesL_ (some 18) rfl rfl Tryz.func42 (by kernel_rfl) rfl #[.agg #[.string a0_0, .slice A0_1 l0_1.length c0_1, .int .i64 a0_2, .int .i64 a0_3, .int .i64 a0_4]] rfl (by (try simp only [List.map_toArray, List.map_cons, List.map_nil]); first | done | rfl | (simp only [List.length_drop, List.length_take]; rfl)) ?_; (with_reducible refine (critical_Heads.calls k a0_0 _ _ l0_1 a0_2 a0_3 a0_4 t228 t231 _ ?side1 ?side2 A7.out).mono ?_); (case side1 => repeat (first | exact (Kd.C_below HR0_1.out HB.out) | (with_reducible refine Kd.C_alloc ?_ _) | (with_reducible refine Kd.C_drewN ?_ _) | (with_reducible refine Kd.C_drew ?_))); (case side2 => exact HC0_1.out); rintro e w14 ⟨v229, rfl, ho0, hb⟩; refine ⟨_, rfl, ?_⟩; have n0_ := aK (Kd.R_lower ho0 (yZ (by repeat (first | (with_reducible first | exact HB.out | apply yA | apply yN | apply yD | refine yS ?_ GE226.out) | exact HB.out)))); have n1_ := zG BK226 hb (fun h => by (with_reducible repeat (first | refine zN ?_ _ | refine zD ?_ | refine zA ?_ _)); exact h); have n2_ := aK (yT (by repeat (first | (with_reducible first | exact HB.out | apply yA | apply yN | apply yD | refine yS ?_ GE226.out) | exact HB.out)) hb); clear BK226; clear HB; have HO230 := n0_; have BK226 := n1_; have HB := n2_; clear n0_ n1_ n2_; (try clear hb); (try clear hb2); (try clear hk); (try clear hi); (try clear ho0); have hcz15_0 := zI BK226 0 rfl; have hcz15_1 := zI BK226 1 rfl; have hcz15_2 := zI BK226 2 rfl; have hcz15_3 := zI BK226 3 rfl; have hcz15_4 := zI BK226 4 rfl; have hfz15_0 := zF BK226.out 0; have hfz15_1 := zF BK226.out 1; have hfz15_2 := zF BK226.out 2; have hfz15_3 := zF BK226.out 3; have hfz15_4 := zF BK226.out 4) | ((with_reducible refine gate_callee (f := 43) rfl ?_); refine goesL_ (some 23) rfl rfl Tryz.func43 (by kernel_rfl) rfl #[.agg #[.string a0_0, .slice A0_1 l0_1.length c0_1, .int .i64 a0_2, .int .i64 a0_3, .int .i64 a0_4]] rfl (by (try simp only [List.map_toArray, List.map_cons, List.map_nil]); first | done | rfl | (simp only [List.length_drop, List.length_take]; rfl)) ?_; (with_reducible refine (critical_Tails.calls k a0_0 _ _ l0_1 a0_2 a0_3 a0_4 t232 t235 _ ?side1 ?side2 A8.out).mono ?_); (case side1 => repeat (first | exact (Kd.C_below HR0_1.out HB.out) | (with_reducible refine Kd.C_alloc ?_ _) | (with_reducible refine Kd.C_drewN ?_ _) | (with_reducible refine Kd.C_drew ?_))); (case side2 => exact HC0_1.out); rintro e w16 ⟨v233, rfl, ho0, hb⟩; refine ⟨_, rfl, ?_⟩; have n0_ := aK (Kd.R_elder' (by (with_reducible repeat (first | apply Kd.R_alloc | apply Kd.R_drewN | apply Kd.R_drew)); exact HO230.out) (Kd.R_base ho0) hb); have n1_ := aK (Kd.R_lower (Kd.R_new' ho0 (Kd.R_lt (by (with_reducible repeat (first | apply Kd.R_alloc | apply Kd.R_drewN | apply Kd.R_drew)); exact HO230.out))) (yZ (by repeat (first | (with_reducible first | exact HB.out | apply yA | apply yN | apply yD | refine yS ?_ GE226.out) | exact HB.out)))); have n2_ := zG BK226 hb (fun h => by (with_reducible repeat (first | refine zN ?_ _ | refine zD ?_ | refine zA ?_ _)); exact h); have n3_ := aK (yT (by repeat (first | (with_reducible first | exact HB.out | apply yA | apply yN | apply yD | refine yS ?_ GE226.out) | exact HB.out)) hb); clear HO230; clear BK226; clear HB; have HO230 := n0_; have HO234 := n1_; have BK226 := n2_; have HB := n3_; clear n0_ n1_ n2_ n3_; (try clear hb); (try clear hb2); (try clear hk); (try clear hi); (try clear ho0); have hcz17_0 := zI BK226 0 rfl; have hcz17_1 := zI BK226 1 rfl; have hcz17_2 := zI BK226 2 rfl; have hcz17_3 := zI BK226 3 rfl; have hcz17_4 := zI BK226 4 rfl; have hfz17_0 := zF BK226.out 0; have hfz17_1 := zF BK226.out 1; have hfz17_2 := zF BK226.out 2; have hfz17_3 := zF BK226.out 3; have hfz17_4 := zF BK226.out 4) | ((with_reducible refine gate_callee (f := 44) rfl ?_); refine goesL_ (some 28) rfl rfl Tryz.func44 (by kernel_rfl) rfl #[.agg #[.string a0_0, .slice A0_1 l0_1.length c0_1, .int .i64 a0_2, .int .i64 a0_3, .int .i64 a0_4]] rfl (by (try simp only [List.map_toArray, List.map_cons, List.map_nil]); first | done | rfl | (simp only [List.length_drop, List.length_take]; rfl)) ?_; (with_reducible refine (critical_Chain.calls k a0_0 _ _ l0_1 a0_2 a0_3 a0_4 t236 t237 _ ?side1 ?side2 A9.out).mono ?_); (case side1 => repeat (first | exact (Kd.C_below HR0_1.out HB.out) | (with_reducible refine Kd.C_alloc ?_ _) | (with_reducible refine Kd.C_drewN ?_ _) | (with_reducible refine Kd.C_drew ?_))); (case side2 => exact HC0_1.out); rintro e w18 ⟨rfl, hb⟩; refine ⟨_, rfl, ?_⟩; have n0_ := aK (Kd.R_below (by (with_reducible repeat (first | apply Kd.R_alloc | apply Kd.R_drewN | apply Kd.R_drew)); exact HO230.out) hb); have n1_ := aK (Kd.R_below (by (with_reducible repeat (first | apply Kd.R_alloc | apply Kd.R_drewN | apply Kd.R_drew)); exact HO234.out) hb); have n2_ := zG BK226 hb (fun h => by (with_reducible repeat (first | refine zN ?_ _ | refine zD ?_ | refine zA ?_ _)); exact h); have n3_ := aK (yT (by repeat (first | (with_reducible first | exact HB.out | apply yA | apply yN | apply yD | refine yS ?_ GE226.out) | exact HB.out)) hb); clear HO230; clear HO234; clear BK226; clear HB; have HO230 := n0_; have HO234 := n1_; have BK226 := n2_; have HB := n3_; clear n0_ n1_ n2_ n3_; (try clear hb); (try clear hb2); (try clear hk); (try clear hi); have hcz19_0 := zI BK226 0 rfl; have hcz19_1 := zI BK226 1 rfl; have hcz19_2 := zI BK226 2 rfl; have hcz19_3 := zI BK226 3 rfl; have hcz19_4 := zI BK226 4 rfl; have hfz19_0 := zF BK226.out 0; have hfz19_1 := zF BK226.out 1; have hfz19_2 := zF BK226.out 2; have hfz19_3 := zF BK226.out 3; have hfz19_4 := zF BK226.out 4) | ((with_reducible refine gate_callee (f := 45) rfl ?_); refine goesL_ (some 32) rfl rfl Tryz.func45 (by kernel_rfl) rfl #[.agg #[.string a0_0, .slice A0_1 l0_1.length c0_1, .int .i64 a0_2, .int .i64 a0_3, .int .i64 a0_4]] rfl (by (try simp only [List.map_toArray, List.map_cons, List.map_nil]); first | done | rfl | (simp only [List.length_drop, List.length_take]; rfl)) ?_; (with_reducible refine (gangsawref52_Alone.calls k a0_0 (fun k_ => k_ < w.heap.size) _ _ l0_1 a0_2 a0_3 a0_4 t238 _ ?side1 A10.out).mono ?_); (case side1 => exact Kd.V_mk HC0_1.out (Kd.F_below (Kd.C_F k40_heap HR0_1.out) (by repeat (first | (with_reducible first | exact HB.out | apply yA | apply yN | apply yD | refine yS ?_ GE226.out) | exact HB.out)))); rintro e w20 ⟨rfl, hb⟩; refine ⟨_, rfl, ?_⟩; have n0_ := aK (Kd.R_below (by (with_reducible repeat (first | apply Kd.R_alloc | apply Kd.R_drewN | apply Kd.R_drew)); exact HO230.out) hb); have n1_ := aK (Kd.R_below (by (with_reducible repeat (first | apply Kd.R_alloc | apply Kd.R_drewN | apply Kd.R_drew)); exact HO234.out) hb); have n2_ := zG BK226 hb (fun h => by (with_reducible repeat (first | refine zN ?_ _ | refine zD ?_ | refine zA ?_ _)); exact h); have n3_ := aK (yT (by repeat (first | (with_reducible first | exact HB.out | apply yA | apply yN | apply yD | refine yS ?_ GE226.out) | exact HB.out)) hb); clear HO230; clear HO234; clear BK226; clear HB; have HO230 := n0_; have HO234 := n1_; have BK226 := n2_; have HB := n3_; clear n0_ n1_ n2_ n3_; (try clear hb); (try clear hb2); (try clear hk); (try clear hi)))
  (try simp only [Act.put, sA, sZ, sS])
  go_cut [45] (fun v45 wc => ∃ (kq : Nat) (x45_10 : Bool), v45 = .bool x45_10 ∧ Aside0 (gangsawlaw52_CriticalSteps.j0 kq t228 t232 t236 t238 x45_10 a0_0 l0_1 a0_2 a0_3 a0_4 = some r) ∧ Aside0 (kq ≤ k) ∧ Aside0 (Kd.R (Kd.int .i64) 3 wc w.heap.size (fun k_ => some k_ ≠ (v233 : Value).ownBlock) v229 t228) ∧ Aside0 (Kd.R (Kd.int .i64) 3 wc w.heap.size (fun k_ => some k_ ≠ (v229 : Value).ownBlock) v233 t232) ∧ Aside0 (wc.heap[gb226]? = some (.cells #[.string a0_0, (.slice A0_1 l0_1.length c0_1), .int .i64 a0_2, .int .i64 a0_3, .int .i64 a0_4] 38 (0, 0))) ∧ Aside0 (Below w.heap.size w wc))
  case first =>
   have H := HC11.out
   clear HC11
   by_cases c21 : t231 = t238
   ·rw [if_pos c21] at H
    have c21b0 : (t231 == t238) = true := beq_iff_eq.mpr c21
    have c21b1 : (t231 != t238) = false := bne_eq_false_iff_eq.mpr c21
    clear c21
    (first | rw [c21b0] | (simp only [i64_w, i32_w]; rw [c21b0]) | skip)
    by_cases c22 : t235 = t238
    ·rw [if_pos c22] at H
     have c22b0 : (t235 == t238) = true := beq_iff_eq.mpr c22
     have c22b1 : (t235 != t238) = false := bne_eq_false_iff_eq.mpr c22
     clear c22
     have H' := aK H
     clear H
     go_wp2
     go_meet
     case rel => exact ⟨_, ((t237 != t238)), (by first | rfl | (simp; done) | (simp [*]; done)), H', ⟨by first | omega | exact Nat.le_refl _⟩, ⟨by (with_reducible repeat (first | apply Kd.R_alloc | apply Kd.R_drewN | apply Kd.R_drew)); exact Kd.R_mono HO230.out (fun _ hk => hk.2)⟩, ⟨by (with_reducible repeat (first | apply Kd.R_alloc | apply Kd.R_drewN | apply Kd.R_drew)); exact Kd.R_mono HO234.out (fun _ hk => hk.2)⟩, ⟨by (with_reducible repeat (first | refine zN ?_ _ | refine zD ?_ | refine zA ?_ _)); exact BK226.out⟩, ⟨by repeat (first | (with_reducible first | exact HB.out | apply yA | apply yN | apply yD | refine yS ?_ GE226.out) | exact HB.out)⟩⟩
    ·rw [if_neg c22] at H
     have c22b0 : (t235 == t238) = false := beq_eq_false_iff_ne.mpr c22
     have c22b1 : (t235 != t238) = true := bne_iff_ne.mpr c22
     have H' := aK H
     clear H
     go_wp2
     go_meet
     case rel => exact ⟨_, (true), (by first | rfl | (simp; done) | (simp [*]; done)), H', ⟨by first | omega | exact Nat.le_refl _⟩, ⟨by (with_reducible repeat (first | apply Kd.R_alloc | apply Kd.R_drewN | apply Kd.R_drew)); exact Kd.R_mono HO230.out (fun _ hk => hk.2)⟩, ⟨by (with_reducible repeat (first | apply Kd.R_alloc | apply Kd.R_drewN | apply Kd.R_drew)); exact Kd.R_mono HO234.out (fun _ hk => hk.2)⟩, ⟨by (with_reducible repeat (first | refine zN ?_ _ | refine zD ?_ | refine zA ?_ _)); exact BK226.out⟩, ⟨by repeat (first | (with_reducible first | exact HB.out | apply yA | apply yN | apply yD | refine yS ?_ GE226.out) | exact HB.out)⟩⟩
   ·rw [if_neg c21] at H
    have c21b0 : (t231 == t238) = false := beq_eq_false_iff_ne.mpr c21
    have c21b1 : (t231 != t238) = true := bne_iff_ne.mpr c21
    (first | rw [c21b0] | (simp only [i64_w, i32_w]; rw [c21b0]) | skip)
    have H' := aK H
    clear H
    go_wp2
    go_meet
    case rel => exact ⟨_, (true), (by first | rfl | (simp; done) | (simp [*]; done)), H', ⟨by first | omega | exact Nat.le_refl _⟩, ⟨by (with_reducible repeat (first | apply Kd.R_alloc | apply Kd.R_drewN | apply Kd.R_drew)); exact Kd.R_mono HO230.out (fun _ hk => hk.2)⟩, ⟨by (with_reducible repeat (first | apply Kd.R_alloc | apply Kd.R_drewN | apply Kd.R_drew)); exact Kd.R_mono HO234.out (fun _ hk => hk.2)⟩, ⟨by (with_reducible repeat (first | refine zN ?_ _ | refine zD ?_ | refine zA ?_ _)); exact BK226.out⟩, ⟨by repeat (first | (with_reducible first | exact HB.out | apply yA | apply yN | apply yD | refine yS ?_ GE226.out) | exact HB.out)⟩⟩
  case rest =>
   clear HC11
   try clear c1
   try clear c2
   try clear c2b0
   try clear c2b1
   try clear p2
   try clear c4
   try clear c10
   try clear c21
   try clear c21b0
   try clear c21b1
   try clear c22
   try clear c22b0
   try clear c22b1
   try clear hcz13_0
   try clear hcz13_1
   try clear hcz13_2
   try clear hcz13_3
   try clear hcz13_4
   try clear hcz15_0
   try clear hcz15_1
   try clear hcz15_2
   try clear hcz15_3
   try clear hcz15_4
   try clear hcz17_0
   try clear hcz17_1
   try clear hcz17_2
   try clear hcz17_3
   try clear hcz17_4
   try clear hcz19_0
   try clear hcz19_1
   try clear hcz19_2
   try clear hcz19_3
   try clear hcz19_4
   try clear hcz5_0
   try clear hcz5_1
   try clear hcz5_2
   try clear hcz5_3
   try clear hcz5_4
   try clear hfz13_0
   try clear hfz13_1
   try clear hfz13_2
   try clear hfz13_3
   try clear hfz13_4
   try clear hfz15_0
   try clear hfz15_1
   try clear hfz15_2
   try clear hfz15_3
   try clear hfz15_4
   try clear hfz17_0
   try clear hfz17_1
   try clear hfz17_2
   try clear hfz17_3
   try clear hfz17_4
   try clear hfz19_0
   try clear hfz19_1
   try clear hfz19_2
   try clear hfz19_3
   try clear hfz19_4
   try clear hfz5_0
   try clear hfz5_1
   try clear hfz5_2
   try clear hfz5_3
   try clear hfz5_4
   obtain ⟨kq, x45_10, rfl, HA, HJ10, HO_3, HO_5, BK226, HB⟩ := hcut
   cases kq with
   | zero => exact absurd HA.out (by simp [gangsawlaw52_CriticalSteps.j0])
   | succ kj10 =>
    have H := HA.out
    clear HA
    simp only [gangsawlaw52_CriticalSteps.j0] at H
    by_cases c23 : x45_10 = true
    ·subst c23
     have H1 : (some false) = some r := by rw [if_pos rfl] at H; exact H
     clear H
     have H := H1
     clear H1
     obtain rfl := Option.some.inj H
     exact absurd hr (by decide)
    ·replace c23 := Bool.eq_false_iff.mpr c23
     subst c23
     have H1 : (if t238 = 0 then (if (t228.length : Int) = (l0_1.length : Int) then (if (t232.length : Int) = (l0_1.length : Int) then ((gangsawref52_Chain.f kj10 a0_0 l0_1 a0_2 a0_3 a0_4).bind fun t240 => (gangsawlaw52_CriticalSteps.j1 kj10 t228 t232 t236 (t236 != t240) a0_0 l0_1 a0_2 a0_3 a0_4)) else (gangsawlaw52_CriticalSteps.j1 kj10 t228 t232 t236 true a0_0 l0_1 a0_2 a0_3 a0_4)) else (gangsawlaw52_CriticalSteps.j1 kj10 t228 t232 t236 true a0_0 l0_1 a0_2 a0_3 a0_4)) else ((gangsawlaw52_awake.f).bind fun t239 => (if t239 = true then (if (t228.length : Int) = 0 then (if (t232.length : Int) = 0 then (some (t236 == 0)) else (some false)) else (some false)) else (some false)))) = some r := by rw [if_neg (show ¬ (false = true) by decide)] at H; exact H
     clear H
     have H := H1
     clear H1
     by_cases c24 : t238 = 0
     ·rw [if_pos c24] at H
      have c24b0 : (t238 == 0) = true := beq_iff_eq.mpr c24
      have c24b1 : (t238 != 0) = false := bne_eq_false_iff_eq.mpr c24
      clear c24
      have HC25 := aK H
      clear H
      go_upto_region 11 with (fail)
      go_cut [82] (fun v82 wc => ∃ (kq : Nat) (x82_24 : Bool), v82 = .bool x82_24 ∧ Aside0 (gangsawlaw52_CriticalSteps.j1 kq t228 t232 t236 x82_24 a0_0 l0_1 a0_2 a0_3 a0_4 = some r) ∧ Aside0 (kq ≤ kj10) ∧ Aside0 (Kd.R (Kd.int .i64) 3 wc w.heap.size (fun k_ => some k_ ≠ (v233 : Value).ownBlock) v229 t228) ∧ Aside0 (Kd.R (Kd.int .i64) 3 wc w.heap.size (fun k_ => some k_ ≠ (v229 : Value).ownBlock) v233 t232) ∧ Aside0 (wc.heap[gb226]? = some (.cells #[.string a0_0, (.slice A0_1 l0_1.length c0_1), .int .i64 a0_2, .int .i64 a0_3, .int .i64 a0_4] 38 (0, 0))) ∧ Aside0 (Below w.heap.size w wc))
      case first =>
       have H := HC25.out
       clear HC25
       by_cases c26 : (t228.length : Int) = (l0_1.length : Int)
       ·rw [if_pos c26] at H
        have c26b0 : ((t228.length : Int) == (l0_1.length : Int)) = true := beq_iff_eq.mpr c26
        have c26b1 : ((t228.length : Int) != (l0_1.length : Int)) = false := bne_eq_false_iff_eq.mpr c26
        have c26b2 : (t228.length == l0_1.length) = true := by first | simpa using c26 | (simp at c26 ⊢; omega)
        clear c26
        (first | rw [c26b0] | (simp only [i64_w, i32_w]; rw [c26b0]) | skip)
        by_cases c27 : (t232.length : Int) = (l0_1.length : Int)
        ·rw [if_pos c27] at H
         have c27b0 : ((t232.length : Int) == (l0_1.length : Int)) = true := beq_iff_eq.mpr c27
         have c27b1 : ((t232.length : Int) != (l0_1.length : Int)) = false := bne_eq_false_iff_eq.mpr c27
         have c27b2 : (t232.length == l0_1.length) = true := by first | simpa using c27 | (simp at c27 ⊢; omega)
         clear c27
         replace H := Option.bind_eq_some_iff.mp H
         obtain ⟨t240, A280, H⟩ := H
         replace H : (gangsawlaw52_CriticalSteps.j1 kj10 t228 t232 t236 (t236 != t240) a0_0 l0_1 a0_2 a0_3 a0_4) = some r := H
         have A28 := aK A280
         clear A280
         have H' := aK H
         clear H
         obtain ⟨Ao29, co29, eo29⟩ := Kd.R_slice HO_3.out
         subst eo29
         have hcz30_0 := zI BK226 0 rfl
         have hcz30_1 := zI BK226 1 rfl
         have hcz30_2 := zI BK226 2 rfl
         have hcz30_3 := zI BK226 3 rfl
         have hcz30_4 := zI BK226 4 rfl
         have hfz30_0 := zF BK226.out 0
         have hfz30_1 := zF BK226.out 1
         have hfz30_2 := zF BK226.out 2
         have hfz30_3 := zF BK226.out 3
         have hfz30_4 := zF BK226.out 4
         obtain ⟨Ao31, co31, eo31⟩ := Kd.R_slice HO_5.out
         subst eo31
         go_wp2_with (first | (go_at_call 46; (with_reducible refine (gangsawref52_Chain.calls kj10 a0_0 _ _ l0_1 a0_2 a0_3 a0_4 t240 _ ?side1 ?side2 A28.out).mono ?_); (case side1 => repeat (first | exact (Kd.C_below HR0_1.out HB.out) | (with_reducible refine Kd.C_alloc ?_ _) | (with_reducible refine Kd.C_drewN ?_ _) | (with_reducible refine Kd.C_drew ?_))); (case side2 => exact HC0_1.out); rintro e w32 ⟨rfl, hb⟩; have n0_ := aK (Kd.R_below (by (with_reducible repeat (first | apply Kd.R_alloc | apply Kd.R_drewN | apply Kd.R_drew)); exact HO_3.out) hb); have n1_ := aK (Kd.R_below (by (with_reducible repeat (first | apply Kd.R_alloc | apply Kd.R_drewN | apply Kd.R_drew)); exact HO_5.out) hb); have n2_ := zG BK226 hb (fun h => by (with_reducible repeat (first | refine zN ?_ _ | refine zD ?_ | refine zA ?_ _)); exact h); have n3_ := aK (yT (by repeat (first | (with_reducible first | exact HB.out | apply yA | apply yN | apply yD | refine yS ?_ GE226.out) | exact HB.out)) hb); clear HO_3; clear HO_5; clear BK226; clear HB; have HO_3 := n0_; have HO_5 := n1_; have BK226 := n2_; have HB := n3_; clear n0_ n1_ n2_ n3_; (try clear hb); (try clear hb2); (try clear hk); (try clear hi)))
         go_meet
         case rel => exact ⟨_, ((t236 != t240)), (by first | rfl | (simp; done) | (simp [*]; done)), H', ⟨by have := HJ10.out; first | omega | exact Nat.le_refl _⟩, ⟨by (with_reducible repeat (first | apply Kd.R_alloc | apply Kd.R_drewN | apply Kd.R_drew)); exact HO_3.out⟩, ⟨by (with_reducible repeat (first | apply Kd.R_alloc | apply Kd.R_drewN | apply Kd.R_drew)); exact HO_5.out⟩, ⟨by (with_reducible repeat (first | refine zN ?_ _ | refine zD ?_ | refine zA ?_ _)); exact BK226.out⟩, ⟨by repeat (first | (with_reducible first | exact HB.out | apply yA | apply yN | apply yD | refine yS ?_ GE226.out) | exact HB.out)⟩⟩
        ·rw [if_neg c27] at H
         have c27b0 : ((t232.length : Int) == (l0_1.length : Int)) = false := beq_eq_false_iff_ne.mpr c27
         have c27b1 : ((t232.length : Int) != (l0_1.length : Int)) = true := bne_iff_ne.mpr c27
         have c27b2 : (t232.length == l0_1.length) = false := by first | simpa using c27 | (simp at c27 ⊢; omega)
         have H' := aK H
         clear H
         obtain ⟨Ao33, co33, eo33⟩ := Kd.R_slice HO_3.out
         subst eo33
         have hcz34_0 := zI BK226 0 rfl
         have hcz34_1 := zI BK226 1 rfl
         have hcz34_2 := zI BK226 2 rfl
         have hcz34_3 := zI BK226 3 rfl
         have hcz34_4 := zI BK226 4 rfl
         have hfz34_0 := zF BK226.out 0
         have hfz34_1 := zF BK226.out 1
         have hfz34_2 := zF BK226.out 2
         have hfz34_3 := zF BK226.out 3
         have hfz34_4 := zF BK226.out 4
         obtain ⟨Ao35, co35, eo35⟩ := Kd.R_slice HO_5.out
         subst eo35
         go_wp2
         go_meet
         case rel => exact ⟨_, (true), (by first | rfl | (simp; done) | (simp [*]; done)), H', ⟨by have := HJ10.out; first | omega | exact Nat.le_refl _⟩, ⟨by (with_reducible repeat (first | apply Kd.R_alloc | apply Kd.R_drewN | apply Kd.R_drew)); exact HO_3.out⟩, ⟨by (with_reducible repeat (first | apply Kd.R_alloc | apply Kd.R_drewN | apply Kd.R_drew)); exact HO_5.out⟩, ⟨by (with_reducible repeat (first | refine zN ?_ _ | refine zD ?_ | refine zA ?_ _)); exact BK226.out⟩, ⟨by repeat (first | (with_reducible first | exact HB.out | apply yA | apply yN | apply yD | refine yS ?_ GE226.out) | exact HB.out)⟩⟩
       ·rw [if_neg c26] at H
        have c26b0 : ((t228.length : Int) == (l0_1.length : Int)) = false := beq_eq_false_iff_ne.mpr c26
        have c26b1 : ((t228.length : Int) != (l0_1.length : Int)) = true := bne_iff_ne.mpr c26
        have c26b2 : (t228.length == l0_1.length) = false := by first | simpa using c26 | (simp at c26 ⊢; omega)
        (first | rw [c26b0] | (simp only [i64_w, i32_w]; rw [c26b0]) | skip)
        have H' := aK H
        clear H
        obtain ⟨Ao36, co36, eo36⟩ := Kd.R_slice HO_3.out
        subst eo36
        have hcz37_0 := zI BK226 0 rfl
        have hcz37_1 := zI BK226 1 rfl
        have hcz37_2 := zI BK226 2 rfl
        have hcz37_3 := zI BK226 3 rfl
        have hcz37_4 := zI BK226 4 rfl
        have hfz37_0 := zF BK226.out 0
        have hfz37_1 := zF BK226.out 1
        have hfz37_2 := zF BK226.out 2
        have hfz37_3 := zF BK226.out 3
        have hfz37_4 := zF BK226.out 4
        go_wp2
        go_meet
        case rel => exact ⟨_, (true), (by first | rfl | (simp; done) | (simp [*]; done)), H', ⟨by have := HJ10.out; first | omega | exact Nat.le_refl _⟩, ⟨by (with_reducible repeat (first | apply Kd.R_alloc | apply Kd.R_drewN | apply Kd.R_drew)); exact HO_3.out⟩, ⟨by (with_reducible repeat (first | apply Kd.R_alloc | apply Kd.R_drewN | apply Kd.R_drew)); exact HO_5.out⟩, ⟨by (with_reducible repeat (first | refine zN ?_ _ | refine zD ?_ | refine zA ?_ _)); exact BK226.out⟩, ⟨by repeat (first | (with_reducible first | exact HB.out | apply yA | apply yN | apply yD | refine yS ?_ GE226.out) | exact HB.out)⟩⟩
      case rest =>
       clear HC25
       try clear c1
       try clear c2
       try clear c2b0
       try clear c2b1
       try clear p2
       try clear c4
       try clear c10
       try clear c21
       try clear c21b0
       try clear c21b1
       try clear c22
       try clear c22b0
       try clear c22b1
       try clear c23
       try clear c24
       try clear c24b0
       try clear c24b1
       try clear c26
       try clear c26b0
       try clear c26b1
       try clear c26b2
       try clear c27
       try clear c27b0
       try clear c27b1
       try clear c27b2
       try clear hcz13_0
       try clear hcz13_1
       try clear hcz13_2
       try clear hcz13_3
       try clear hcz13_4
       try clear hcz15_0
       try clear hcz15_1
       try clear hcz15_2
       try clear hcz15_3
       try clear hcz15_4
       try clear hcz17_0
       try clear hcz17_1
       try clear hcz17_2
       try clear hcz17_3
       try clear hcz17_4
       try clear hcz19_0
       try clear hcz19_1
       try clear hcz19_2
       try clear hcz19_3
       try clear hcz19_4
       try clear hcz30_0
       try clear hcz30_1
       try clear hcz30_2
       try clear hcz30_3
       try clear hcz30_4
       try clear hcz34_0
       try clear hcz34_1
       try clear hcz34_2
       try clear hcz34_3
       try clear hcz34_4
       try clear hcz37_0
       try clear hcz37_1
       try clear hcz37_2
       try clear hcz37_3
       try clear hcz37_4
       try clear hcz5_0
       try clear hcz5_1
       try clear hcz5_2
       try clear hcz5_3
       try clear hcz5_4
       try clear hfz13_0
       try clear hfz13_1
       try clear hfz13_2
       try clear hfz13_3
       try clear hfz13_4
       try clear hfz15_0
       try clear hfz15_1
       try clear hfz15_2
       try clear hfz15_3
       try clear hfz15_4
       try clear hfz17_0
       try clear hfz17_1
       try clear hfz17_2
       try clear hfz17_3
       try clear hfz17_4
       try clear hfz19_0
       try clear hfz19_1
       try clear hfz19_2
       try clear hfz19_3
       try clear hfz19_4
       try clear hfz30_0
       try clear hfz30_1
       try clear hfz30_2
       try clear hfz30_3
       try clear hfz30_4
       try clear hfz34_0
       try clear hfz34_1
       try clear hfz34_2
       try clear hfz34_3
       try clear hfz34_4
       try clear hfz37_0
       try clear hfz37_1
       try clear hfz37_2
       try clear hfz37_3
       try clear hfz37_4
       try clear hfz5_0
       try clear hfz5_1
       try clear hfz5_2
       try clear hfz5_3
       try clear hfz5_4
       try clear p2
       obtain ⟨kq, x82_24, rfl, HA, HJ24, HO_3, HO_5, BK226, HB⟩ := hcut
       cases kq with
       | zero => exact absurd HA.out (by simp [gangsawlaw52_CriticalSteps.j1])
       | succ kj24 =>
        have H := HA.out
        clear HA
        simp only [gangsawlaw52_CriticalSteps.j1] at H
        by_cases c38 : x82_24 = true
        ·subst c38
         have H1 : (some false) = some r := by rw [if_pos rfl] at H; exact H
         clear H
         have H := H1
         clear H1
         obtain rfl := Option.some.inj H
         exact absurd hr (by decide)
        ·replace c38 := Bool.eq_false_iff.mpr c38
         subst c38
         have H1 : (gangsawlaw52_CriticalSteps.l0 kj24 t228 t232 t236 0 a0_0 l0_1 a0_2 a0_3 a0_4) = some r := by rw [if_neg (show ¬ (false = true) by decide)] at H; exact H
         clear H
         have H := H1
         clear H1
         have H' := aK H
         clear H
         go_wp2
         go_loopg [10] kj24 (fun kq v10 w' => ∃ (x10_3 : Int), v10 = .int .i64 x10_3 ∧ Aside0 (gangsawlaw52_CriticalSteps.l0 kq t228 t232 t236 x10_3 a0_0 l0_1 a0_2 a0_3 a0_4 = some r) ∧ Aside0 (kq ≤ kj24) ∧ Aside0 (Kd.R (Kd.int .i64) 3 w' w.heap.size (fun k_ => some k_ ≠ (v233 : Value).ownBlock) v229 t228) ∧ Aside0 (Kd.R (Kd.int .i64) 3 w' w.heap.size (fun k_ => some k_ ≠ (v229 : Value).ownBlock) v233 t232) ∧ Aside0 (w'.heap[gb226]? = some (.cells #[.string a0_0, (.slice A0_1 l0_1.length c0_1), .int .i64 a0_2, .int .i64 a0_3, .int .i64 a0_4] 38 (0, 0))) ∧ Aside0 (Below w.heap.size w w'))
         case atStart => exact ⟨(0), (by first | rfl | (simp; done) | (simp [*]; done)), H', ⟨Nat.le_refl _⟩, ⟨by (with_reducible repeat (first | apply Kd.R_alloc | apply Kd.R_drewN | apply Kd.R_drew)); exact HO_3.out⟩, ⟨by (with_reducible repeat (first | apply Kd.R_alloc | apply Kd.R_drewN | apply Kd.R_drew)); exact HO_5.out⟩, ⟨by (with_reducible repeat (first | refine zN ?_ _ | refine zD ?_ | refine zA ?_ _)); exact BK226.out⟩, ⟨by repeat (first | (with_reducible first | exact HB.out | apply yA | apply yN | apply yD | refine yS ?_ GE226.out) | exact HB.out)⟩⟩
         case round =>
          clear H'
          try clear c1
          try clear c2
          try clear c2b0
          try clear c2b1
          try clear p2
          try clear c3
          try clear c4
          try clear c10
          try clear c21
          try clear c21b0
          try clear c21b1
          try clear c22
          try clear c22b0
          try clear c22b1
          try clear c23
          try clear c24
          try clear c24b0
          try clear c24b1
          try clear c26
          try clear c26b0
          try clear c26b1
          try clear c26b2
          try clear c27
          try clear c27b0
          try clear c27b1
          try clear c27b2
          try clear c38
          try clear hcz13_0
          try clear hcz13_1
          try clear hcz13_2
          try clear hcz13_3
          try clear hcz13_4
          try clear hcz15_0
          try clear hcz15_1
          try clear hcz15_2
          try clear hcz15_3
          try clear hcz15_4
          try clear hcz17_0
          try clear hcz17_1
          try clear hcz17_2
          try clear hcz17_3
          try clear hcz17_4
          try clear hcz19_0
          try clear hcz19_1
          try clear hcz19_2
          try clear hcz19_3
          try clear hcz19_4
          try clear hcz30_0
          try clear hcz30_1
          try clear hcz30_2
          try clear hcz30_3
          try clear hcz30_4
          try clear hcz34_0
          try clear hcz34_1
          try clear hcz34_2
          try clear hcz34_3
          try clear hcz34_4
          try clear hcz37_0
          try clear hcz37_1
          try clear hcz37_2
          try clear hcz37_3
          try clear hcz37_4
          try clear hcz5_0
          try clear hcz5_1
          try clear hcz5_2
          try clear hcz5_3
          try clear hcz5_4
          try clear hfz13_0
          try clear hfz13_1
          try clear hfz13_2
          try clear hfz13_3
          try clear hfz13_4
          try clear hfz15_0
          try clear hfz15_1
          try clear hfz15_2
          try clear hfz15_3
          try clear hfz15_4
          try clear hfz17_0
          try clear hfz17_1
          try clear hfz17_2
          try clear hfz17_3
          try clear hfz17_4
          try clear hfz19_0
          try clear hfz19_1
          try clear hfz19_2
          try clear hfz19_3
          try clear hfz19_4
          try clear hfz30_0
          try clear hfz30_1
          try clear hfz30_2
          try clear hfz30_3
          try clear hfz30_4
          try clear hfz34_0
          try clear hfz34_1
          try clear hfz34_2
          try clear hfz34_3
          try clear hfz34_4
          try clear hfz37_0
          try clear hfz37_1
          try clear hfz37_2
          try clear hfz37_3
          try clear hfz37_4
          try clear hfz5_0
          try clear hfz5_1
          try clear hfz5_2
          try clear hfz5_3
          try clear hfz5_4
          try clear p2
          obtain ⟨x10_3, rfl, HA, HK3, HO_3, HO_5, BK226, HB⟩ := hrel
          cases gk with
          | zero => exact absurd HA.out (by simp [gangsawlaw52_CriticalSteps.l0])
          | succ k3 =>
           have H := HA.out
           clear HA
           simp only [gangsawlaw52_CriticalSteps.l0] at H
           by_cases c39 : x10_3 < (t228.length : Int)
           ·rw [if_pos c39] at H
            have c39b0 : decide (x10_3 < (t228.length : Int)) = true := decide_eq_true c39
            clear c39
            by_cases c40 : 0 ≤ x10_3
            ·rw [if_pos c40] at H
             have c40b0 : decide (0 ≤ x10_3) = true := decide_eq_true c40
             clear c40
             replace H := Option.bind_eq_some_iff.mp H
             obtain ⟨t243, A410, H⟩ := H
             replace H : (if (rd t228 x10_3) = t243 then (if x10_3 < (t232.length : Int) then ((gangsawref52_Tail.f k3 a0_0 l0_1 a0_2 a0_3 a0_4 x10_3).bind fun t245 => (if (rd t232 x10_3) = t245 then (if x10_3 < (l0_1.length : Int) then (if (wrap64 ((wrap64 ((rd t228 x10_3) + ((rd_T40 l0_1 x10_3).f1))) + (rd t232 x10_3))) = t236 then (gangsawlaw52_CriticalSteps.l0 k3 t228 t232 t236 (wrap64 (x10_3 + 1)) a0_0 l0_1 a0_2 a0_3 a0_4) else (some false)) else (none)) else (some false))) else (none)) else (some false)) = some r := H
             have A41 := aK A410
             clear A410
             by_cases c42 : (rd t228 x10_3) = t243
             ·rw [if_pos c42] at H
              have c42b0 : ((rd t228 x10_3) == t243) = true := beq_iff_eq.mpr c42
              have c42b1 : ((rd t228 x10_3) != t243) = false := bne_eq_false_iff_eq.mpr c42
              clear c42
              by_cases c43 : x10_3 < (t232.length : Int)
              ·rw [if_pos c43] at H
               have c43b0 : decide (x10_3 < (t232.length : Int)) = true := decide_eq_true c43
               clear c43
               replace H := Option.bind_eq_some_iff.mp H
               obtain ⟨t245, A440, H⟩ := H
               replace H : (if (rd t232 x10_3) = t245 then (if x10_3 < (l0_1.length : Int) then (if (wrap64 ((wrap64 ((rd t228 x10_3) + ((rd_T40 l0_1 x10_3).f1))) + (rd t232 x10_3))) = t236 then (gangsawlaw52_CriticalSteps.l0 k3 t228 t232 t236 (wrap64 (x10_3 + 1)) a0_0 l0_1 a0_2 a0_3 a0_4) else (some false)) else (none)) else (some false)) = some r := H
               have A44 := aK A440
               clear A440
               by_cases c45 : (rd t232 x10_3) = t245
               ·rw [if_pos c45] at H
                have c45b0 : ((rd t232 x10_3) == t245) = true := beq_iff_eq.mpr c45
                have c45b1 : ((rd t232 x10_3) != t245) = false := bne_eq_false_iff_eq.mpr c45
                clear c45
                by_cases c46 : x10_3 < (l0_1.length : Int)
                ·rw [if_pos c46] at H
                 have c46b0 : decide (x10_3 < (l0_1.length : Int)) = true := decide_eq_true c46
                 clear c46
                 by_cases c47 : (wrap64 ((wrap64 ((rd t228 x10_3) + ((rd_T40 l0_1 x10_3).f1))) + (rd t232 x10_3))) = t236
                 ·rw [if_pos c47] at H
                  have c47b0 : ((wrap64 ((wrap64 ((rd t228 x10_3) + ((rd_T40 l0_1 x10_3).f1))) + (rd t232 x10_3))) == t236) = true := beq_iff_eq.mpr c47
                  have c47b1 : ((wrap64 ((wrap64 ((rd t228 x10_3) + ((rd_T40 l0_1 x10_3).f1))) + (rd t232 x10_3))) != t236) = false := bne_eq_false_iff_eq.mpr c47
                  clear c47
                  have H' := aK H
                  clear H
                  obtain ⟨Ao48, co48, eo48⟩ := Kd.R_slice HO_3.out
                  subst eo48
                  try go_wp2
                  have n0_ := aK (Kd.R_drew HO_3.out)
                  have n1_ := aK (Kd.R_drew HO_5.out)
                  have n2_ := aK (zD BK226.out)
                  have n3_ := aK (yD HB.out)
                  clear HO_3
                  clear HO_5
                  clear BK226
                  clear HB
                  have HO_3 := n0_
                  have HO_5 := n1_
                  have BK226 := n2_
                  have HB := n3_
                  clear n0_ n1_ n2_ n3_
                  have p242 : 0 ≤ (x10_3 : Int) := of_decide_eq_true (by first | (with_reducible assumption) | assumption)
                  have q242 : x10_3 < (t228.length : Int) := of_decide_eq_true (by first | (with_reducible assumption) | assumption)
                  (try (obtain ⟨_, _, ex_⟩ := Kd.R_slice HO_3.out; subst ex_))
                  obtain ⟨ad242, e242, hx242_0⟩ := Kd.at_int (Kd.R_reads' HO_3.out).2.2 x10_3 p242 q242
                  cases e242
                  replace p242 := eq_true p242
                  replace q242 := eq_true q242
                  have p244 : 0 ≤ (x10_3 : Int) := of_decide_eq_true (by first | (with_reducible assumption) | assumption)
                  have q244 : x10_3 < (t232.length : Int) := of_decide_eq_true (by first | (with_reducible assumption) | assumption)
                  (try (obtain ⟨_, _, ex_⟩ := Kd.R_slice HO_5.out; subst ex_))
                  obtain ⟨ad244, e244, hx244_0⟩ := Kd.at_int (Kd.R_reads' HO_5.out).2.2 x10_3 p244 q244
                  cases e244
                  replace p244 := eq_true p244
                  replace q244 := eq_true q244
                  have p246 : 0 ≤ (x10_3 : Int) := of_decide_eq_true (by first | (with_reducible assumption) | assumption)
                  have q246 : x10_3 < (t228.length : Int) := of_decide_eq_true (by first | (with_reducible assumption) | assumption)
                  (try (obtain ⟨_, _, ex_⟩ := Kd.R_slice HO_3.out; subst ex_))
                  obtain ⟨ad246, e246, hx246_0⟩ := Kd.at_int (Kd.R_reads' HO_3.out).2.2 x10_3 p246 q246
                  obtain rfl : ad242 = ad246 := (by injection e246)
                  replace p246 := eq_true p246
                  replace q246 := eq_true q246
                  have p247 : 0 ≤ (x10_3 : Int) := of_decide_eq_true (by first | (with_reducible assumption) | assumption)
                  have q247 : x10_3 < (l0_1.length : Int) := of_decide_eq_true (by first | (with_reducible assumption) | assumption)
                  obtain ⟨ad247, e247, hx247_0, hx247_1, hx247_2⟩ := at_T40 HR0_1.out x10_3 p247 q247
                  have hw247_2 := hx247_2
                  have hw247_1 := hx247_1
                  have hw247_0 := hx247_0
                  cases e247
                  replace hx247_0 := (HB.out.cell (World.block_lt_of_cell? w _ hx247_0)).trans hx247_0
                  replace hx247_1 := (HB.out.cell (World.block_lt_of_cell? w _ hx247_1)).trans hx247_1
                  replace hx247_2 := (HB.out.cell (World.block_lt_of_cell? w _ hx247_2)).trans hx247_2
                  replace p247 := eq_true p247
                  replace q247 := eq_true q247
                  have p248 : 0 ≤ (x10_3 : Int) := of_decide_eq_true (by first | (with_reducible assumption) | assumption)
                  have q248 : x10_3 < (t232.length : Int) := of_decide_eq_true (by first | (with_reducible assumption) | assumption)
                  (try (obtain ⟨_, _, ex_⟩ := Kd.R_slice HO_5.out; subst ex_))
                  obtain ⟨ad248, e248, hx248_0⟩ := Kd.at_int (Kd.R_reads' HO_5.out).2.2 x10_3 p248 q248
                  obtain rfl : ad244 = ad248 := (by injection e248)
                  replace p248 := eq_true p248
                  replace q248 := eq_true q248
                  refine start_ (n := 38) (S := fun w' => w'.cell? ⟨gb226, 0, none⟩ = some (.string a0_0) ∧ w'.cell? ⟨gb226, 1, none⟩ = some (.slice (some ad247) l0_1.length c0_1) ∧ w'.cell? ⟨gb226, 2, none⟩ = some (.int .i64 a0_2) ∧ w'.cell? ⟨gb226, 3, none⟩ = some (.int .i64 a0_3) ∧ w'.cell? ⟨gb226, 4, none⟩ = some (.int .i64 a0_4) ∧ w'.cell? (ad242.add (x10_3).toNat) = some (.int .i64 (rd t228 x10_3)) ∧ w'.cell? (ad244.add (x10_3).toNat) = some (.int .i64 (rd t232 x10_3)) ∧ w'.cell? (ad242.add (x10_3).toNat) = some (.int .i64 (rd t228 x10_3)) ∧ w'.cell? (ad247.add ((x10_3).toNat * 3)) = some (.string ((rd_T40 l0_1 x10_3).f0)) ∧ w'.cell? ⟨(ad247.add ((x10_3).toNat * 3)).block, (ad247.add ((x10_3).toNat * 3)).off + 1, none⟩ = some (.int .i64 ((rd_T40 l0_1 x10_3).f1)) ∧ w'.cell? ⟨(ad247.add ((x10_3).toNat * 3)).block, (ad247.add ((x10_3).toNat * 3)).off + 2, none⟩ = some (.int .i64 ((rd_T40 l0_1 x10_3).f2)) ∧ w'.cell? (ad244.add (x10_3).toNat) = some (.int .i64 (rd t232 x10_3))) (ds := []) #[false, false, false, false, false, false, false, false, false, false, false, false, false, false, false, false, false, false, false, false, false, false, false, false, false, false, false, false, false, false, false, false, false, false, false, false, false, false] (by kernel_rfl) rfl rfl ⟨(zC BK226.out 0).trans rfl, (zC BK226.out 1).trans rfl, (zC BK226.out 2).trans rfl, (zC BK226.out 3).trans rfl, (zC BK226.out 4).trans rfl, hx242_0, hx244_0, hx246_0, ((HB.out.cell (World.block_lt_of_cell? w _ hw247_0)).trans hw247_0), ((HB.out.cell (World.block_lt_of_cell? w _ hw247_1)).trans hw247_1), ((HB.out.cell (World.block_lt_of_cell? w _ hw247_2)).trans hw247_2), hx248_0⟩ (fun hHeld => ?_); refine with_tabW gangsawlaw52_CriticalSteps.tab16 gangsawlaw52_CriticalSteps.bits16 (fun HT_ HW_ => ?_)
                  generalize wr.drew = w49 at HO_3 HO_5 BK226 HB hx242_0 hx244_0 hx246_0 hx247_0 hx247_1 hx247_2 hx248_0 hHeld ⊢
                  refine pure_ (i := 0) (N := some 89) (v := ?_) (a' := ?_) #[true, false, false, false, false, false, false, false, false, false, false, false, false, false, false, false, false, false, false, false, false, false, false, false, false, false, false, false, false, false, false, false, false, false, false, false, false, false] rfl rfl (any_of HT_.out (by kernel_rfl)) (fun _ _ _ h => h) (Or.inl ⟨by rfl, ?_⟩) ?_ ?_
                  rotate_left
                  ·intro w'
                   go_simp
                   with_reducible rfl
                  rotate_left
                  ·simp only [Act.put, sA, sZ, sS, i64_w, i32_w]
                   rfl
                  refine pure_ (i := 1) (N := some 90) (v := ?_) (a' := ?_) #[true, true, false, false, false, false, false, false, false, false, false, false, false, false, false, false, false, false, false, false, false, false, false, false, false, false, false, false, false, false, false, false, false, false, false, false, false, false] rfl rfl (any_of HT_.out (by kernel_rfl)) (fun _ _ _ h => h) (Or.inl ⟨by rfl, ?_⟩) ?_ ?_
                  rotate_left
                  ·intro w'
                   go_simp
                   with_reducible rfl
                  rotate_left
                  ·simp only [Act.put, sA, sZ, sS, i64_w, i32_w]
                   rfl
                  refine pure_ (i := 2) (N := some 91) (v := ?_) (a' := ?_) #[true, true, true, false, false, false, false, false, false, false, false, false, false, false, false, false, false, false, false, false, false, false, false, false, false, false, false, false, false, false, false, false, false, false, false, false, false, false] rfl rfl (any_of HT_.out (by kernel_rfl)) (fun _ _ _ h => h) (Or.inl ⟨by rfl, ?_⟩) ?_ ?_
                  rotate_left
                  ·intro w'
                   go_simp
                   with_reducible rfl
                  rotate_left
                  ·simp only [Act.put, sA, sZ, sS, i64_w, i32_w]
                   rfl
                  refine pure_ (i := 5) (N := some 94) (v := ?_) (a' := ?_) #[true, true, true, false, false, true, false, false, false, false, false, false, false, false, false, false, false, false, false, false, false, false, false, false, false, false, false, false, false, false, false, false, false, false, false, false, false, false] rfl rfl (any_of HT_.out (by kernel_rfl)) (fun _ _ _ h => h) (Or.inl ⟨by rfl, ?_⟩) ?_ ?_
                  rotate_left
                  ·intro w'
                   go_simp
                   with_reducible rfl
                  rotate_left
                  ·simp only [Act.put, sA, sZ, sS, i64_w, i32_w]
                   rfl
                  refine take_ (i := 3) (N := some 92) (v := ?_) (a' := ?_) #[true, true, true, true, false, true, false, false, false, false, false, false, false, false, false, false, false, false, false, false, false, false, false, false, false, false, false, false, false, false, false, false, false, false, false, false, false, false] rfl rfl (take_ofW HT_.out HW_.out (by kernel_rfl)) (fun _ _ _ h => h) (Or.inl ⟨by rfl, ?_⟩) hHeld ?_ ?_
                  rotate_left
                  ·rintro w' ⟨s0, s1, s2, s3, s4, s5, s6, s7, s8, s9, s10, s11⟩
                   go_simp
                   with_reducible rfl
                  rotate_left
                  ·simp only [Act.put, sA, sZ, sS, i64_w, i32_w]
                   rfl
                  refine take_ (i := 4) (N := some 93) (v := ?_) (a' := ?_) #[true, true, true, true, true, true, false, false, false, false, false, false, false, false, false, false, false, false, false, false, false, false, false, false, false, false, false, false, false, false, false, false, false, false, false, false, false, false] rfl rfl (take_ofW HT_.out HW_.out (by kernel_rfl)) (fun _ _ _ h => h) (Or.inl ⟨by rfl, ?_⟩) hHeld ?_ ?_
                  rotate_left
                  ·rintro w' ⟨s0, s1, s2, s3, s4, s5, s6, s7, s8, s9, s10, s11⟩
                   go_simp
                   with_reducible rfl
                  rotate_left
                  ·simp only [Act.put, sA, sZ, sS, i64_w, i32_w]
                   rfl
                  refine one_ (i := 6) (N := some 95) #[true, true, true, true, true, true, true, false, false, false, false, false, false, false, false, false, false, false, false, false, false, false, false, false, false, false, false, false, false, false, false, false, false, false, false, false, false, false] rfl rfl (one_of HT_.out (by kernel_rfl)) (by decide) (fun K hK => ?_)
                  refine goes_ Tryz.func47 (by kernel_rfl) rfl #[.agg #[.string a0_0, .slice (some ad247) l0_1.length c0_1, .int .i64 a0_2, .int .i64 a0_3, .int .i64 a0_4], .int .i64 x10_3] (by rfl) rfl rfl (by (try simp only [List.map_toArray, List.map_cons, List.map_nil]); first | done | rfl | (simp only [List.length_drop, List.length_take]; rfl)) ?_
                  with_reducible refine (gangsawref52_Head.calls k3 a0_0 _ _ l0_1 a0_2 a0_3 a0_4 x10_3 t243 _ ?side1 ?side2 A41.out).mono ?_
                  (case side1 => repeat (first | exact (Kd.C_below HR0_1.out HB.out) | (with_reducible refine Kd.C_alloc ?_ _) | (with_reducible refine Kd.C_drewN ?_ _) | (with_reducible refine Kd.C_drew ?_)))
                  (case side2 => exact HC0_1.out)
                  rintro e w50 ⟨rfl, hb⟩
                  have HS5_ := (hb.cell (World.block_lt_of_cell? _ _ (hHeld.2.2.2.2.2.1))).trans (hHeld.2.2.2.2.2.1)
                  have HS6_ := (hb.cell (World.block_lt_of_cell? _ _ (hHeld.2.2.2.2.2.2.1))).trans (hHeld.2.2.2.2.2.2.1)
                  have HS7_ := (hb.cell (World.block_lt_of_cell? _ _ (hHeld.2.2.2.2.2.2.2.1))).trans (hHeld.2.2.2.2.2.2.2.1)
                  have HS11_ := (hb.cell (World.block_lt_of_cell? _ _ (hHeld.2.2.2.2.2.2.2.2.2.2.2))).trans (hHeld.2.2.2.2.2.2.2.2.2.2.2)
                  refine ⟨_, rfl, ?_⟩
                  have n0_ := aK (Kd.R_below (by (with_reducible repeat (first | apply Kd.R_alloc | apply Kd.R_drewN | apply Kd.R_drew)); exact HO_3.out) hb)
                  have n1_ := aK (Kd.R_below (by (with_reducible repeat (first | apply Kd.R_alloc | apply Kd.R_drewN | apply Kd.R_drew)); exact HO_5.out) hb)
                  have n2_ := zG BK226 hb (fun h => by (with_reducible repeat (first | refine zN ?_ _ | refine zD ?_ | refine zA ?_ _)); exact h)
                  have n3_ := aK (yT (by repeat (first | (with_reducible first | exact HB.out | apply yA | apply yN | apply yD | refine yS ?_ GE226.out) | exact HB.out)) hb)
                  clear HO_3
                  clear HO_5
                  clear BK226
                  clear HB
                  have HO_3 := n0_
                  have HO_5 := n1_
                  have BK226 := n2_
                  have HB := n3_
                  clear n0_ n1_ n2_ n3_
                  (try clear hb)
                  (try clear hb2)
                  (try clear hk)
                  (try clear hi)
                  obtain ⟨Ao51, co51, eo51⟩ := Kd.R_slice HO_5.out
                  (first | subst eo51 | (injection eo51 with f1_ f2_ f3_; have f4_ := f1_.symm; have f5_ := f3_.symm; clear f1_ f2_ f3_; subst f4_; subst f5_))
                  refine hK.out _ _ ⟨(zC BK226.out 0).trans rfl, (zC BK226.out 1).trans rfl, (zC BK226.out 2).trans rfl, (zC BK226.out 3).trans rfl, (zC BK226.out 4).trans rfl, HS5_, HS6_, HS7_, ((HB.out.cell (World.block_lt_of_cell? w _ hw247_0)).trans hw247_0), ((HB.out.cell (World.block_lt_of_cell? w _ hw247_1)).trans hw247_1), ((HB.out.cell (World.block_lt_of_cell? w _ hw247_2)).trans hw247_2), HS11_⟩ (fun hHeld => ?_)
                  clear hK K
                  refine norm_ (a' := ?_) ?_ ?_
                  rotate_left
                  ·show Act.put _ (some 95) _ = _
                   simp only [Act.put, sA, sZ, sS, i64_w, i32_w]
                   rfl
                  refine pure_ (i := 7) (N := some 96) (v := ?_) (a' := ?_) #[true, true, true, true, true, true, true, true, false, false, false, false, false, false, false, false, false, false, false, false, false, false, false, false, false, false, false, false, false, false, false, false, false, false, false, false, false, false] rfl rfl (any_of HT_.out (by kernel_rfl)) (fun _ _ _ h => h) (Or.inl ⟨by rfl, ?_⟩) ?_ ?_
                  rotate_left
                  ·intro w'
                   go_simp
                   with_reducible rfl
                  rotate_left
                  ·simp only [Act.put, sA, sZ, sS, i64_w, i32_w]
                   rfl
                  refine pure_ (i := 8) (N := some 97) (v := ?_) (a' := ?_) #[true, true, true, true, true, true, true, true, true, false, false, false, false, false, false, false, false, false, false, false, false, false, false, false, false, false, false, false, false, false, false, false, false, false, false, false, false, false] rfl rfl (any_of HT_.out (by kernel_rfl)) (fun _ _ _ h => h) (Or.inl ⟨by rfl, ?_⟩) ?_ ?_
                  rotate_left
                  ·intro w'
                   go_simp
                   with_reducible rfl
                  rotate_left
                  ·simp only [Act.put, sA, sZ, sS, i64_w, i32_w]
                   rfl
                  refine pure_ (i := 9) (N := some 98) (v := ?_) (a' := ?_) #[true, true, true, true, true, true, true, true, true, true, false, false, false, false, false, false, false, false, false, false, false, false, false, false, false, false, false, false, false, false, false, false, false, false, false, false, false, false] rfl rfl (any_of HT_.out (by kernel_rfl)) (fun _ _ _ h => h) (Or.inl ⟨by rfl, ?_⟩) ?_ ?_
                  rotate_left
                  ·intro w'
                   go_simp
                   with_reducible rfl
                  rotate_left
                  ·simp only [Act.put, sA, sZ, sS, i64_w, i32_w]
                   rfl
                  refine pure_ (i := 10) (N := some 99) (v := ?_) (a' := ?_) #[true, true, true, true, true, true, true, true, true, true, true, false, false, false, false, false, false, false, false, false, false, false, false, false, false, false, false, false, false, false, false, false, false, false, false, false, false, false] rfl rfl (any_of HT_.out (by kernel_rfl)) (fun _ _ _ h => h) (Or.inl ⟨by rfl, ?_⟩) ?_ ?_
                  rotate_left
                  ·intro w'
                   go_simp
                   with_reducible rfl
                  rotate_left
                  ·simp only [Act.put, sA, sZ, sS, i64_w, i32_w]
                   rfl
                  refine pure_ (i := 11) (N := some 100) (v := ?_) (a' := ?_) #[true, true, true, true, true, true, true, true, true, true, true, true, false, false, false, false, false, false, false, false, false, false, false, false, false, false, false, false, false, false, false, false, false, false, false, false, false, false] rfl rfl (any_of HT_.out (by kernel_rfl)) (fun _ _ _ h => h) (Or.inl ⟨by rfl, ?_⟩) ?_ ?_
                  rotate_left
                  ·intro w'
                   go_simp
                   with_reducible rfl
                  rotate_left
                  ·simp only [Act.put, sA, sZ, sS, i64_w, i32_w]
                   rfl
                  refine pure_ (i := 14) (N := some 103) (v := ?_) (a' := ?_) #[true, true, true, true, true, true, true, true, true, true, true, true, false, false, true, false, false, false, false, false, false, false, false, false, false, false, false, false, false, false, false, false, false, false, false, false, false, false] rfl rfl (any_of HT_.out (by kernel_rfl)) (fun _ _ _ h => h) (Or.inl ⟨by rfl, ?_⟩) ?_ ?_
                  rotate_left
                  ·intro w'
                   go_simp
                   with_reducible rfl
                  rotate_left
                  ·simp only [Act.put, sA, sZ, sS, i64_w, i32_w]
                   rfl
                  refine take_ (i := 12) (N := some 101) (v := ?_) (a' := ?_) #[true, true, true, true, true, true, true, true, true, true, true, true, true, false, true, false, false, false, false, false, false, false, false, false, false, false, false, false, false, false, false, false, false, false, false, false, false, false] rfl rfl (take_ofW HT_.out HW_.out (by kernel_rfl)) (fun _ _ _ h => h) (Or.inl ⟨by rfl, ?_⟩) hHeld ?_ ?_
                  rotate_left
                  ·rintro w' ⟨s0, s1, s2, s3, s4, s5, s6, s7, s8, s9, s10, s11⟩
                   go_simp
                   with_reducible rfl
                  rotate_left
                  ·simp only [Act.put, sA, sZ, sS, i64_w, i32_w]
                   rfl
                  refine take_ (i := 13) (N := some 102) (v := ?_) (a' := ?_) #[true, true, true, true, true, true, true, true, true, true, true, true, true, true, true, false, false, false, false, false, false, false, false, false, false, false, false, false, false, false, false, false, false, false, false, false, false, false] rfl rfl (take_ofW HT_.out HW_.out (by kernel_rfl)) (fun _ _ _ h => h) (Or.inl ⟨by rfl, ?_⟩) hHeld ?_ ?_
                  rotate_left
                  ·rintro w' ⟨s0, s1, s2, s3, s4, s5, s6, s7, s8, s9, s10, s11⟩
                   go_simp
                   with_reducible rfl
                  rotate_left
                  ·simp only [Act.put, sA, sZ, sS, i64_w, i32_w]
                   rfl
                  refine one_ (i := 15) (N := some 104) #[true, true, true, true, true, true, true, true, true, true, true, true, true, true, true, true, false, false, false, false, false, false, false, false, false, false, false, false, false, false, false, false, false, false, false, false, false, false] rfl rfl (one_of HT_.out (by kernel_rfl)) (by decide) (fun K hK => ?_)
                  refine goes_ Tryz.func48 (by kernel_rfl) rfl #[.agg #[.string a0_0, .slice (some ad247) l0_1.length c0_1, .int .i64 a0_2, .int .i64 a0_3, .int .i64 a0_4], .int .i64 x10_3] (by rfl) rfl rfl (by (try simp only [List.map_toArray, List.map_cons, List.map_nil]); first | done | rfl | (simp only [List.length_drop, List.length_take]; rfl)) ?_
                  with_reducible refine (gangsawref52_Tail.calls k3 a0_0 _ _ l0_1 a0_2 a0_3 a0_4 x10_3 t245 _ ?side1 ?side2 A44.out).mono ?_
                  (case side1 => repeat (first | exact (Kd.C_below HR0_1.out HB.out) | (with_reducible refine Kd.C_alloc ?_ _) | (with_reducible refine Kd.C_drewN ?_ _) | (with_reducible refine Kd.C_drew ?_)))
                  (case side2 => exact HC0_1.out)
                  rintro e w52 ⟨rfl, hb⟩
                  have HS5_ := (hb.cell (World.block_lt_of_cell? _ _ (hHeld.2.2.2.2.2.1))).trans (hHeld.2.2.2.2.2.1)
                  have HS6_ := (hb.cell (World.block_lt_of_cell? _ _ (hHeld.2.2.2.2.2.2.1))).trans (hHeld.2.2.2.2.2.2.1)
                  have HS7_ := (hb.cell (World.block_lt_of_cell? _ _ (hHeld.2.2.2.2.2.2.2.1))).trans (hHeld.2.2.2.2.2.2.2.1)
                  have HS11_ := (hb.cell (World.block_lt_of_cell? _ _ (hHeld.2.2.2.2.2.2.2.2.2.2.2))).trans (hHeld.2.2.2.2.2.2.2.2.2.2.2)
                  refine ⟨_, rfl, ?_⟩
                  have n0_ := aK (Kd.R_below (by (with_reducible repeat (first | apply Kd.R_alloc | apply Kd.R_drewN | apply Kd.R_drew)); exact HO_3.out) hb)
                  have n1_ := aK (Kd.R_below (by (with_reducible repeat (first | apply Kd.R_alloc | apply Kd.R_drewN | apply Kd.R_drew)); exact HO_5.out) hb)
                  have n2_ := zG BK226 hb (fun h => by (with_reducible repeat (first | refine zN ?_ _ | refine zD ?_ | refine zA ?_ _)); exact h)
                  have n3_ := aK (yT (by repeat (first | (with_reducible first | exact HB.out | apply yA | apply yN | apply yD | refine yS ?_ GE226.out) | exact HB.out)) hb)
                  clear HO_3
                  clear HO_5
                  clear BK226
                  clear HB
                  have HO_3 := n0_
                  have HO_5 := n1_
                  have BK226 := n2_
                  have HB := n3_
                  clear n0_ n1_ n2_ n3_
                  (try clear hb)
                  (try clear hb2)
                  (try clear hk)
                  (try clear hi)
                  refine hK.out _ _ ⟨(zC BK226.out 0).trans rfl, (zC BK226.out 1).trans rfl, (zC BK226.out 2).trans rfl, (zC BK226.out 3).trans rfl, (zC BK226.out 4).trans rfl, HS5_, HS6_, HS7_, ((HB.out.cell (World.block_lt_of_cell? w _ hw247_0)).trans hw247_0), ((HB.out.cell (World.block_lt_of_cell? w _ hw247_1)).trans hw247_1), ((HB.out.cell (World.block_lt_of_cell? w _ hw247_2)).trans hw247_2), HS11_⟩ (fun hHeld => ?_)
                  clear hK K
                  refine norm_ (a' := ?_) ?_ ?_
                  rotate_left
                  ·show Act.put _ (some 104) _ = _
                   simp only [Act.put, sA, sZ, sS, i64_w, i32_w]
                   rfl
                  refine pure_ (i := 16) (N := some 105) (v := ?_) (a' := ?_) #[true, true, true, true, true, true, true, true, true, true, true, true, true, true, true, true, true, false, false, false, false, false, false, false, false, false, false, false, false, false, false, false, false, false, false, false, false, false] rfl rfl (any_of HT_.out (by kernel_rfl)) (fun _ _ _ h => h) (Or.inl ⟨by rfl, ?_⟩) ?_ ?_
                  rotate_left
                  ·intro w'
                   go_simp
                   with_reducible rfl
                  rotate_left
                  ·simp only [Act.put, sA, sZ, sS, i64_w, i32_w]
                   rfl
                  refine pure_ (i := 17) (N := some 106) (v := ?_) (a' := ?_) #[true, true, true, true, true, true, true, true, true, true, true, true, true, true, true, true, true, true, false, false, false, false, false, false, false, false, false, false, false, false, false, false, false, false, false, false, false, false] rfl rfl (any_of HT_.out (by kernel_rfl)) (fun _ _ _ h => h) (Or.inl ⟨by rfl, ?_⟩) ?_ ?_
                  rotate_left
                  ·intro w'
                   go_simp
                   with_reducible rfl
                  rotate_left
                  ·simp only [Act.put, sA, sZ, sS, i64_w, i32_w]
                   rfl
                  refine pure_ (i := 18) (N := some 107) (v := ?_) (a' := ?_) #[true, true, true, true, true, true, true, true, true, true, true, true, true, true, true, true, true, true, true, false, false, false, false, false, false, false, false, false, false, false, false, false, false, false, false, false, false, false] rfl rfl (any_of HT_.out (by kernel_rfl)) (fun _ _ _ h => h) (Or.inl ⟨by rfl, ?_⟩) ?_ ?_
                  rotate_left
                  ·intro w'
                   go_simp
                   with_reducible rfl
                  rotate_left
                  ·simp only [Act.put, sA, sZ, sS, i64_w, i32_w]
                   rfl
                  refine pure_ (i := 19) (N := some 108) (v := ?_) (a' := ?_) #[true, true, true, true, true, true, true, true, true, true, true, true, true, true, true, true, true, true, true, true, false, false, false, false, false, false, false, false, false, false, false, false, false, false, false, false, false, false] rfl rfl (any_of HT_.out (by kernel_rfl)) (fun _ _ _ h => h) (Or.inl ⟨by rfl, ?_⟩) ?_ ?_
                  rotate_left
                  ·intro w'
                   go_simp
                   with_reducible rfl
                  rotate_left
                  ·simp only [Act.put, sA, sZ, sS, i64_w, i32_w]
                   rfl
                  refine pure_ (i := 20) (N := some 109) (v := ?_) (a' := ?_) #[true, true, true, true, true, true, true, true, true, true, true, true, true, true, true, true, true, true, true, true, true, false, false, false, false, false, false, false, false, false, false, false, false, false, false, false, false, false] rfl rfl (any_of HT_.out (by kernel_rfl)) (fun _ _ _ h => h) (Or.inl ⟨by rfl, ?_⟩) ?_ ?_
                  rotate_left
                  ·intro w'
                   go_simp
                   with_reducible rfl
                  rotate_left
                  ·simp only [Act.put, sA, sZ, sS, i64_w, i32_w]
                   rfl
                  refine pure_ (i := 21) (N := some 110) (v := ?_) (a' := ?_) #[true, true, true, true, true, true, true, true, true, true, true, true, true, true, true, true, true, true, true, true, true, true, false, false, false, false, false, false, false, false, false, false, false, false, false, false, false, false] rfl rfl (any_of HT_.out (by kernel_rfl)) (fun _ _ _ h => h) (Or.inl ⟨by rfl, ?_⟩) ?_ ?_
                  rotate_left
                  ·intro w'
                   go_simp
                   with_reducible rfl
                  rotate_left
                  ·simp only [Act.put, sA, sZ, sS, i64_w, i32_w]
                   rfl
                  refine pure_ (i := 23) (N := some 112) (v := ?_) (a' := ?_) #[true, true, true, true, true, true, true, true, true, true, true, true, true, true, true, true, true, true, true, true, true, true, false, true, false, false, false, false, false, false, false, false, false, false, false, false, false, false] rfl rfl (any_of HT_.out (by kernel_rfl)) (fun _ _ _ h => h) (Or.inl ⟨by rfl, ?_⟩) ?_ ?_
                  rotate_left
                  ·intro w'
                   go_simp
                   with_reducible rfl
                  rotate_left
                  ·simp only [Act.put, sA, sZ, sS, i64_w, i32_w]
                   rfl
                  refine pure_ (i := 25) (N := some 114) (v := ?_) (a' := ?_) #[true, true, true, true, true, true, true, true, true, true, true, true, true, true, true, true, true, true, true, true, true, true, false, true, false, true, false, false, false, false, false, false, false, false, false, false, false, false] rfl rfl (any_of HT_.out (by kernel_rfl)) (fun _ _ _ h => h) (Or.inl ⟨by rfl, ?_⟩) ?_ ?_
                  rotate_left
                  ·intro w'
                   go_simp
                   with_reducible rfl
                  rotate_left
                  ·simp only [Act.put, sA, sZ, sS, i64_w, i32_w]
                   rfl
                  refine pure_ (i := 30) (N := some 119) (v := ?_) (a' := ?_) #[true, true, true, true, true, true, true, true, true, true, true, true, true, true, true, true, true, true, true, true, true, true, false, true, false, true, false, false, false, false, true, false, false, false, false, false, false, false] rfl rfl (any_of HT_.out (by kernel_rfl)) (fun _ _ _ h => h) (Or.inl ⟨by rfl, ?_⟩) ?_ ?_
                  rotate_left
                  ·intro w'
                   go_simp
                   with_reducible rfl
                  rotate_left
                  ·simp only [Act.put, sA, sZ, sS, i64_w, i32_w]
                   rfl
                  refine pure_ (i := 31) (N := some 120) (v := ?_) (a' := ?_) #[true, true, true, true, true, true, true, true, true, true, true, true, true, true, true, true, true, true, true, true, true, true, false, true, false, true, false, false, false, false, true, true, false, false, false, false, false, false] rfl rfl (any_of HT_.out (by kernel_rfl)) (fun _ _ _ h => h) (Or.inl ⟨by rfl, ?_⟩) ?_ ?_
                  rotate_left
                  ·intro w'
                   go_simp
                   with_reducible rfl
                  rotate_left
                  ·simp only [Act.put, sA, sZ, sS, i64_w, i32_w]
                   rfl
                  refine pure_ (i := 32) (N := some 121) (v := ?_) (a' := ?_) #[true, true, true, true, true, true, true, true, true, true, true, true, true, true, true, true, true, true, true, true, true, true, false, true, false, true, false, false, false, false, true, true, true, false, false, false, false, false] rfl rfl (any_of HT_.out (by kernel_rfl)) (fun _ _ _ h => h) (Or.inl ⟨by rfl, ?_⟩) ?_ ?_
                  rotate_left
                  ·intro w'
                   go_simp
                   with_reducible rfl
                  rotate_left
                  ·simp only [Act.put, sA, sZ, sS, i64_w, i32_w]
                   rfl
                  refine pure_ (i := 35) (N := some 124) (v := ?_) (a' := ?_) #[true, true, true, true, true, true, true, true, true, true, true, true, true, true, true, true, true, true, true, true, true, true, false, true, false, true, false, false, false, false, true, true, true, false, false, true, false, false] rfl rfl (any_of HT_.out (by kernel_rfl)) (fun _ _ _ h => h) (Or.inl ⟨by rfl, ?_⟩) ?_ ?_
                  rotate_left
                  ·intro w'
                   go_simp
                   with_reducible rfl
                  rotate_left
                  ·simp only [Act.put, sA, sZ, sS, i64_w, i32_w]
                   rfl
                  refine take_ (i := 22) (N := some 111) (v := ?_) (a' := ?_) #[true, true, true, true, true, true, true, true, true, true, true, true, true, true, true, true, true, true, true, true, true, true, true, true, false, true, false, false, false, false, true, true, true, false, false, true, false, false] rfl rfl (take_ofW HT_.out HW_.out (by kernel_rfl)) (fun _ _ _ h => h) (Or.inl ⟨by rfl, ?_⟩) hHeld ?_ ?_
                  rotate_left
                  ·rintro w' ⟨s0, s1, s2, s3, s4, s5, s6, s7, s8, s9, s10, s11⟩
                   go_simp
                   with_reducible rfl
                  rotate_left
                  ·simp only [Act.put, sA, sZ, sS, i64_w, i32_w]
                   rfl
                  refine take_ (i := 24) (N := some 113) (v := ?_) (a' := ?_) #[true, true, true, true, true, true, true, true, true, true, true, true, true, true, true, true, true, true, true, true, true, true, true, true, true, true, false, false, false, false, true, true, true, false, false, true, false, false] rfl rfl (take_ofW HT_.out HW_.out (by kernel_rfl)) (fun _ _ _ h => h) (Or.inl ⟨by rfl, ?_⟩) hHeld ?_ ?_
                  rotate_left
                  ·rintro w' ⟨s0, s1, s2, s3, s4, s5, s6, s7, s8, s9, s10, s11⟩
                   go_simp
                   with_reducible rfl
                  rotate_left
                  ·simp only [Act.put, sA, sZ, sS, i64_w, i32_w]
                   rfl
                  refine pure_ (i := 26) (N := some 115) (v := ?_) (a' := ?_) #[true, true, true, true, true, true, true, true, true, true, true, true, true, true, true, true, true, true, true, true, true, true, true, true, true, true, true, false, false, false, true, true, true, false, false, true, false, false] rfl rfl (any_of HT_.out (by kernel_rfl)) (fun _ _ _ h => h) (Or.inl ⟨by rfl, ?_⟩) ?_ ?_
                  rotate_left
                  ·intro w'
                   go_simp
                   with_reducible rfl
                  rotate_left
                  ·simp only [Act.put, sA, sZ, sS, i64_w, i32_w]
                   rfl
                  refine pure_ (i := 27) (N := some 116) (v := ?_) (a' := ?_) #[true, true, true, true, true, true, true, true, true, true, true, true, true, true, true, true, true, true, true, true, true, true, true, true, true, true, true, true, false, false, true, true, true, false, false, true, false, false] rfl rfl (any_of HT_.out (by kernel_rfl)) (fun _ _ _ h => h) (Or.inl ⟨by rfl, ?_⟩) ?_ ?_
                  rotate_left
                  ·intro w'
                   go_simp
                   with_reducible rfl
                  rotate_left
                  ·simp only [Act.put, sA, sZ, sS, i64_w, i32_w]
                   rfl
                  refine take_ (i := 28) (N := some 117) (v := ?_) (a' := ?_) #[true, true, true, true, true, true, true, true, true, true, true, true, true, true, true, true, true, true, true, true, true, true, true, true, true, true, true, true, true, false, true, true, true, false, false, true, false, false] rfl rfl (take_ofW HT_.out HW_.out (by kernel_rfl)) (fun _ _ _ h => h) (Or.inl ⟨by rfl, ?_⟩) hHeld ?_ ?_
                  rotate_left
                  ·rintro w' ⟨s0, s1, s2, s3, s4, s5, s6, s7, s8, s9, s10, s11⟩
                   go_simp
                   with_reducible rfl
                  rotate_left
                  ·simp only [Act.put, sA, sZ, sS, i64_w, i32_w]
                   rfl
                  refine pure_ (i := 29) (N := some 118) (v := ?_) (a' := ?_) #[true, true, true, true, true, true, true, true, true, true, true, true, true, true, true, true, true, true, true, true, true, true, true, true, true, true, true, true, true, true, true, true, true, false, false, true, false, false] rfl rfl (any_of HT_.out (by kernel_rfl)) (fun _ _ _ h => h) (Or.inl ⟨by rfl, ?_⟩) ?_ ?_
                  rotate_left
                  ·intro w'
                   go_simp
                   with_reducible rfl
                  rotate_left
                  ·simp only [Act.put, sA, sZ, sS, i64_w, i32_w]
                   rfl
                  refine take_ (i := 33) (N := some 122) (v := ?_) (a' := ?_) #[true, true, true, true, true, true, true, true, true, true, true, true, true, true, true, true, true, true, true, true, true, true, true, true, true, true, true, true, true, true, true, true, true, true, false, true, false, false] rfl rfl (take_ofW HT_.out HW_.out (by kernel_rfl)) (fun _ _ _ h => h) (Or.inl ⟨by rfl, ?_⟩) hHeld ?_ ?_
                  rotate_left
                  ·rintro w' ⟨s0, s1, s2, s3, s4, s5, s6, s7, s8, s9, s10, s11⟩
                   go_simp
                   with_reducible rfl
                  rotate_left
                  ·simp only [Act.put, sA, sZ, sS, i64_w, i32_w]
                   rfl
                  refine pure_ (i := 34) (N := some 123) (v := ?_) (a' := ?_) #[true, true, true, true, true, true, true, true, true, true, true, true, true, true, true, true, true, true, true, true, true, true, true, true, true, true, true, true, true, true, true, true, true, true, true, true, false, false] rfl rfl (any_of HT_.out (by kernel_rfl)) (fun _ _ _ h => h) (Or.inl ⟨by rfl, ?_⟩) ?_ ?_
                  rotate_left
                  ·intro w'
                   go_simp
                   with_reducible rfl
                  rotate_left
                  ·simp only [Act.put, sA, sZ, sS, i64_w, i32_w]
                   rfl
                  refine pure_ (i := 36) (N := some 125) (v := ?_) (a' := ?_) #[true, true, true, true, true, true, true, true, true, true, true, true, true, true, true, true, true, true, true, true, true, true, true, true, true, true, true, true, true, true, true, true, true, true, true, true, true, false] rfl rfl (any_of HT_.out (by kernel_rfl)) (fun _ _ _ h => h) (Or.inl ⟨by rfl, ?_⟩) ?_ ?_
                  rotate_left
                  ·intro w'
                   go_simp
                   with_reducible rfl
                  rotate_left
                  ·simp only [Act.put, sA, sZ, sS, i64_w, i32_w]
                   rfl
                  refine pure_ (i := 37) (N := some 126) (v := ?_) (a' := ?_) #[true, true, true, true, true, true, true, true, true, true, true, true, true, true, true, true, true, true, true, true, true, true, true, true, true, true, true, true, true, true, true, true, true, true, true, true, true, true] rfl rfl (any_of HT_.out (by kernel_rfl)) (fun _ _ _ h => h) (Or.inl ⟨by rfl, ?_⟩) ?_ ?_
                  rotate_left
                  ·intro w'
                   go_simp
                   with_reducible rfl
                  rotate_left
                  ·simp only [Act.put, sA, sZ, sS, i64_w, i32_w]
                   rfl
                  refine done_ (done_of HT_.out (by kernel_rfl)) ?_
                  try go_wp2
                  go_roundg k3
                  case measure => have := HJ10.out; have := HJ24.out; have := HK3.out; omega
                  case rel => exact ⟨(wrap64 (x10_3 + 1)), (by first | rfl | (simp; done) | (simp [*]; done)), H', ⟨by have := HJ10.out; have := HJ24.out; have := HK3.out; omega⟩, ⟨by (with_reducible repeat (first | apply Kd.R_alloc | apply Kd.R_drewN | apply Kd.R_drew)); exact HO_3.out⟩, ⟨by (with_reducible repeat (first | apply Kd.R_alloc | apply Kd.R_drewN | apply Kd.R_drew)); exact HO_5.out⟩, ⟨by (with_reducible repeat (first | refine zN ?_ _ | refine zD ?_ | refine zA ?_ _)); exact BK226.out⟩, ⟨by repeat (first | (with_reducible first | exact HB.out | apply yA | apply yN | apply yD | refine yS ?_ GE226.out) | exact HB.out)⟩⟩
                 ·rw [if_neg c47] at H
                  have c47b0 : ((wrap64 ((wrap64 ((rd t228 x10_3) + ((rd_T40 l0_1 x10_3).f1))) + (rd t232 x10_3))) == t236) = false := beq_eq_false_iff_ne.mpr c47
                  have c47b1 : ((wrap64 ((wrap64 ((rd t228 x10_3) + ((rd_T40 l0_1 x10_3).f1))) + (rd t232 x10_3))) != t236) = true := bne_iff_ne.mpr c47
                  obtain rfl := Option.some.inj H
                  exact absurd hr (by decide)
                ·rw [if_neg c46] at H
                 exact absurd H (by simp)
               ·rw [if_neg c45] at H
                have c45b0 : ((rd t232 x10_3) == t245) = false := beq_eq_false_iff_ne.mpr c45
                have c45b1 : ((rd t232 x10_3) != t245) = true := bne_iff_ne.mpr c45
                obtain rfl := Option.some.inj H
                exact absurd hr (by decide)
              ·rw [if_neg c43] at H
               exact absurd H (by simp)
             ·rw [if_neg c42] at H
              have c42b0 : ((rd t228 x10_3) == t243) = false := beq_eq_false_iff_ne.mpr c42
              have c42b1 : ((rd t228 x10_3) != t243) = true := bne_iff_ne.mpr c42
              obtain rfl := Option.some.inj H
              exact absurd hr (by decide)
            ·rw [if_neg c40] at H
             exact absurd H (by simp)
           ·rw [if_neg c39] at H
            have c39b0 : decide (x10_3 < (t228.length : Int)) = false := decide_eq_false c39
            clear c39
            replace H := Option.bind_eq_some_iff.mp H
            obtain ⟨t241, A530, H⟩ := H
            replace H : (some t241) = some r := H
            have A53 := aK A530
            clear A530
            obtain rfl := Option.some.inj H
            simp only [Option.some.injEq, Prod.mk.injEq] at H
            obtain ⟨rfl⟩ := H
            obtain ⟨Ao54, co54, eo54⟩ := Kd.R_slice HO_3.out
            subst eo54
            go_wp2_with (first | ((with_reducible refine gate_callee (f := 41) rfl ?_); refine goesL_ (some 127) rfl rfl Tryz.func41 (by kernel_rfl) rfl #[] rfl (by (try simp only [List.map_toArray, List.map_cons, List.map_nil]); first | done | rfl | (simp only [List.length_drop, List.length_take]; rfl)) ?_; (with_reducible refine (gangsawlaw52_awake.calls  t241 _ A53.out).mono ?_); rintro e w55 ⟨rfl, hb⟩; refine ⟨_, rfl, ?_⟩; have n0_ := aK (Kd.R_below (by (with_reducible repeat (first | apply Kd.R_alloc | apply Kd.R_drewN | apply Kd.R_drew)); exact HO_3.out) hb); have n1_ := aK (Kd.R_below (by (with_reducible repeat (first | apply Kd.R_alloc | apply Kd.R_drewN | apply Kd.R_drew)); exact HO_5.out) hb); have n2_ := zG BK226 hb (fun h => by (with_reducible repeat (first | refine zN ?_ _ | refine zD ?_ | refine zA ?_ _)); exact h); have n3_ := aK (yT (by repeat (first | (with_reducible first | exact HB.out | apply yA | apply yN | apply yD | refine yS ?_ GE226.out) | exact HB.out)) hb); clear HO_3; clear HO_5; clear BK226; clear HB; have HO_3 := n0_; have HO_5 := n1_; have BK226 := n2_; have HB := n3_; clear n0_ n1_ n2_ n3_; (try clear hb); (try clear hb2); (try clear hk); (try clear hi)))
            go_ret
            exact ⟨by first | rfl | (simp [errW_none, errW_some] <;> rfl) | (simp [*, errW_none, errW_some] <;> rfl), by repeat (first | (with_reducible first | exact HB.out | apply yA | apply yN | apply yD | refine yS ?_ GE226.out) | exact HB.out)⟩
     ·rw [if_neg c24] at H
      have c24b0 : (t238 == 0) = false := beq_eq_false_iff_ne.mpr c24
      have c24b1 : (t238 != 0) = true := bne_iff_ne.mpr c24
      replace H := Option.bind_eq_some_iff.mp H
      obtain ⟨t239, A560, H⟩ := H
      replace H : (if t239 = true then (if (t228.length : Int) = 0 then (if (t232.length : Int) = 0 then (some (t236 == 0)) else (some false)) else (some false)) else (some false)) = some r := H
      have A56 := aK A560
      clear A560
      by_cases c57 : t239 = true
      ·subst c57
       have H1 : (if (t228.length : Int) = 0 then (if (t232.length : Int) = 0 then (some (t236 == 0)) else (some false)) else (some false)) = some r := by rw [if_pos rfl] at H; exact H
       clear H
       have H := H1
       clear H1
       by_cases c58 : (t228.length : Int) = 0
       ·rw [if_pos c58] at H
        have c58b0 : ((t228.length : Int) == 0) = true := beq_iff_eq.mpr c58
        have c58b1 : ((t228.length : Int) != 0) = false := bne_eq_false_iff_eq.mpr c58
        clear c58
        by_cases c59 : (t232.length : Int) = 0
        ·rw [if_pos c59] at H
         have c59b0 : ((t232.length : Int) == 0) = true := beq_iff_eq.mpr c59
         have c59b1 : ((t232.length : Int) != 0) = false := bne_eq_false_iff_eq.mpr c59
         clear c59
         obtain rfl := Option.some.inj H
         simp only [Option.some.injEq, Prod.mk.injEq] at H
         obtain ⟨rfl⟩ := H
         go_wp2_with (first | ((with_reducible refine gate_callee (f := 41) rfl ?_); refine goesL_ (some 48) rfl rfl Tryz.func41 (by kernel_rfl) rfl #[] rfl (by (try simp only [List.map_toArray, List.map_cons, List.map_nil]); first | done | rfl | (simp only [List.length_drop, List.length_take]; rfl)) ?_; (with_reducible refine (gangsawlaw52_awake.calls  true _ A56.out).mono ?_); rintro e w60 ⟨rfl, hb⟩; refine ⟨_, rfl, ?_⟩; have n0_ := aK (Kd.R_below (by (with_reducible repeat (first | apply Kd.R_alloc | apply Kd.R_drewN | apply Kd.R_drew)); exact HO_3.out) hb); have n1_ := aK (Kd.R_below (by (with_reducible repeat (first | apply Kd.R_alloc | apply Kd.R_drewN | apply Kd.R_drew)); exact HO_5.out) hb); have n2_ := zG BK226 hb (fun h => by (with_reducible repeat (first | refine zN ?_ _ | refine zD ?_ | refine zA ?_ _)); exact h); have n3_ := aK (yT (by repeat (first | (with_reducible first | exact HB.out | apply yA | apply yN | apply yD | refine yS ?_ GE226.out) | exact HB.out)) hb); clear HO_3; clear HO_5; clear BK226; clear HB; have HO_3 := n0_; have HO_5 := n1_; have BK226 := n2_; have HB := n3_; clear n0_ n1_ n2_ n3_; (try clear hb); (try clear hb2); (try clear hk); (try clear hi); obtain ⟨Ao61, co61, eo61⟩ := Kd.R_slice HO_3.out; subst eo61; obtain ⟨Ao62, co62, eo62⟩ := Kd.R_slice HO_5.out; subst eo62))
         go_ret
         exact ⟨by first | rfl | (simp [errW_none, errW_some] <;> rfl) | (simp [*, errW_none, errW_some] <;> rfl), by repeat (first | (with_reducible first | exact HB.out | apply yA | apply yN | apply yD | refine yS ?_ GE226.out) | exact HB.out)⟩
        ·rw [if_neg c59] at H
         have c59b0 : ((t232.length : Int) == 0) = false := beq_eq_false_iff_ne.mpr c59
         have c59b1 : ((t232.length : Int) != 0) = true := bne_iff_ne.mpr c59
         have c59b2 : ¬ (t232 = []) := fun h_ => c59 (by rw [h_]; rfl)
         obtain rfl := Option.some.inj H
         exact absurd hr (by decide)
       ·rw [if_neg c58] at H
        have c58b0 : ((t228.length : Int) == 0) = false := beq_eq_false_iff_ne.mpr c58
        have c58b1 : ((t228.length : Int) != 0) = true := bne_iff_ne.mpr c58
        have c58b2 : ¬ (t228 = []) := fun h_ => c58 (by rw [h_]; rfl)
        obtain rfl := Option.some.inj H
        exact absurd hr (by decide)
      ·replace c57 := Bool.eq_false_iff.mpr c57
       subst c57
       have H1 : (some false) = some r := by rw [if_neg (show ¬ (false = true) by decide)] at H; exact H
       clear H
       have H := H1
       clear H1
       obtain rfl := Option.some.inj H
       exact absurd hr (by decide)

end Go.Proofs.YtkdbcaegeeeiaaaGreat.P
