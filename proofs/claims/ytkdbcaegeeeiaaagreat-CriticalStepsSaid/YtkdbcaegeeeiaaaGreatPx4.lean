/- What functions of the program return: each contract says so of one function, for every input at which its pure function yields. -/
import Derived.Test.YtkdbcaegeeeiaaaGreatPx0
import Derived.Test.YtkdbcaegeeeiaaaGreatPx3
namespace Go.Proofs.YtkdbcaegeeeiaaaGreat.P
open Go.RowKit Go.Proofs.YtkdbcaegeeeiaaaGreatW.PrintWords Go.Proofs.YtkdbcaegeeeiaaaGreatW.PrintLast Go.Proofs.YtkdbcaegeeeiaaaGreatW.PrintMore
attribute [local go_sem] max2_int min2_int max_two min_two max_three min_three max_four min_four   -- for this text's walks alone
set_option linter.unusedVariables false
set_option linter.unusedSimpArgs false

mutual
def gangsawref50_named.l0 : Nat → List (S42) → List (S38) → Int → Option (Bool)
 | 0, _, _, _ => none
 | k + 1, x0, x1, x5 => if x5 < (x0.length : Int) then (if 0 ≤ x5 then ((gangsawref09_Name.f k ((rd_T42 x0 x5).f0)).bind fun t141 => (if t141 = true then ((gangsawref09_Name.f k ((rd_T42 x0 x5).f1)).bind fun t143 => (if t143 = true then (gangsawref50_named.l0 k x0 x1 (wrap64 (x5 + 1))) else (some false))) else (some false))) else (none)) else (gangsawref50_named.l1 k x1 0)
def gangsawref50_named.l1 : Nat → List (S38) → Int → Option (Bool)
 | 0, _, _ => none
 | k + 1, x1, x6 => if x6 < (x1.length : Int) then (if 0 ≤ x6 then ((gangsawref09_Name.f k ((rd_T38 x1 x6).f0)).bind fun t145 => (if t145 = true then (gangsawref50_named.l2 k x1 x6 0) else (some false))) else (none)) else (some true)
def gangsawref50_named.l2 : Nat → List (S38) → Int → Int → Option (Bool)
 | 0, _, _, _ => none
 | k + 1, x1, x6, x7 => if 0 ≤ x6 then (if x6 < (x1.length : Int) then (if x7 < (((rd_T38 x1 x6).f1).length : Int) then (if 0 ≤ x7 then ((gangsawref09_Name.f k ((rd_T40 ((rd_T38 x1 x6).f1) x7).f0)).bind fun t149 => (if t149 = true then (gangsawref50_named.l2 k x1 x6 (wrap64 (x7 + 1))) else (some false))) else (none)) else (gangsawref50_named.l1 k x1 (wrap64 (x6 + 1)))) else (none)) else (none)
end
def gangsawref50_named.f (k : Nat) (l0 : List (S42)) (l1 : List (S38)) : Option (Bool) := gangsawref50_named.l0 k l0 l1 0
theorem gangsawref50_named.mono_l : ∀ k, (∀ y0 y1 y2, LeO (gangsawref50_named.l0 k y0 y1 y2) (gangsawref50_named.l0 (k + 1) y0 y1 y2)) ∧ (∀ y0 y1, LeO (gangsawref50_named.l1 k y0 y1) (gangsawref50_named.l1 (k + 1) y0 y1)) ∧ (∀ y0 y1 y2, LeO (gangsawref50_named.l2 k y0 y1 y2) (gangsawref50_named.l2 (k + 1) y0 y1 y2))
 | 0 => ⟨fun _ _ _ r h => by simp [gangsawref50_named.l0] at h, fun _ _ r h => by simp [gangsawref50_named.l1] at h, fun _ _ _ r h => by simp [gangsawref50_named.l2] at h⟩
 | k + 1 => by
  obtain ⟨ih0, ih1, ih2⟩ := gangsawref50_named.mono_l k
  refine ⟨?_, ?_, ?_⟩
  ·intro y0 y1 y2
   unfold gangsawref50_named.l0
   repeat' first
   | (with_reducible exact ih0 _ _ _)
   | (with_reducible exact ih1 _ _)
   | (with_reducible exact ih2 _ _ _)
   | (with_reducible exact gangsawref09_Name.mono _ _)
   | (with_reducible exact LeO.refl _)
   | (with_reducible exact LeO.none _)
   | (with_reducible refine LeO.ite ?_ ?_)
   | (with_reducible refine LeO.bind ?_ (fun _ => ?_))
   | exact ih0 _ _ _
   | exact ih1 _ _
   | exact ih2 _ _ _
   | exact gangsawref09_Name.mono _ _
   | exact LeO.none _
   | refine LeO.ite ?_ ?_
   | refine LeO.bind ?_ (fun _ => ?_)
  ·intro y0 y1
   unfold gangsawref50_named.l1
   repeat' first
   | (with_reducible exact ih0 _ _ _)
   | (with_reducible exact ih1 _ _)
   | (with_reducible exact ih2 _ _ _)
   | (with_reducible exact gangsawref09_Name.mono _ _)
   | (with_reducible exact LeO.refl _)
   | (with_reducible exact LeO.none _)
   | (with_reducible refine LeO.ite ?_ ?_)
   | (with_reducible refine LeO.bind ?_ (fun _ => ?_))
   | exact ih0 _ _ _
   | exact ih1 _ _
   | exact ih2 _ _ _
   | exact gangsawref09_Name.mono _ _
   | exact LeO.none _
   | refine LeO.ite ?_ ?_
   | refine LeO.bind ?_ (fun _ => ?_)
  ·intro y0 y1 y2
   unfold gangsawref50_named.l2
   repeat' first
   | (with_reducible exact ih0 _ _ _)
   | (with_reducible exact ih1 _ _)
   | (with_reducible exact ih2 _ _ _)
   | (with_reducible exact gangsawref09_Name.mono _ _)
   | (with_reducible exact LeO.refl _)
   | (with_reducible exact LeO.none _)
   | (with_reducible refine LeO.ite ?_ ?_)
   | (with_reducible refine LeO.bind ?_ (fun _ => ?_))
   | exact ih0 _ _ _
   | exact ih1 _ _
   | exact ih2 _ _ _
   | exact gangsawref09_Name.mono _ _
   | exact LeO.none _
   | refine LeO.ite ?_ ?_
   | refine LeO.bind ?_ (fun _ => ?_)
theorem gangsawref50_named.mono : ∀ a0 a1 k, LeO (gangsawref50_named.f k a0 a1) (gangsawref50_named.f (k + 1) a0 a1) := by
 intro a0 a1 k
 obtain ⟨ih0, ih1, ih2⟩ := gangsawref50_named.mono_l k
 unfold gangsawref50_named.f
 repeat' first
   | (with_reducible exact ih0 _ _ _)
   | (with_reducible exact ih1 _ _)
   | (with_reducible exact ih2 _ _ _)
   | (with_reducible exact gangsawref09_Name.mono _ _)
   | (with_reducible exact LeO.refl _)
   | (with_reducible exact LeO.none _)
   | (with_reducible refine LeO.ite ?_ ?_)
   | (with_reducible refine LeO.bind ?_ (fun _ => ?_))
   | exact ih0 _ _ _
   | exact ih1 _ _
   | exact ih2 _ _ _
   | exact gangsawref09_Name.mono _ _
   | exact LeO.none _
   | refine LeO.ite ?_ ?_
   | refine LeO.bind ?_ (fun _ => ?_)
set_option maxHeartbeats 8000000 in
set_option maxRecDepth 100000 in
theorem gangsawref50_named.calls (k : Nat) (A0 : Option Addr) (c0 : Nat) (l0 : List (S42)) (A1 : Option Addr) (c1 : Nat) (l1 : List (S38)) (r : Bool) (w : World) (hr0 : Kd.C k42 w A0 l0.length l0) (hc0 : l0.length ≤ c0) (hr1 : Kd.C k38 w A1 l1.length l1) (hc1 : l1.length ≤ c1) (h : gangsawref50_named.f k l0 l1 = some r) :
  Calls Tryz.prog 82 #[.slice A0 l0.length c0, .slice A1 l1.length c1] w fun e w' => e = .returned (.bool r) ∧ Drawn0 w w' := by
 have HR0 := aK hr0
 have HC0 := aK hc0
 clear hr0 hc0
 have HR1 := aK hr1
 have HC1 := aK hc1
 clear hr1 hc1
 have H : (gangsawref50_named.l0 k l0 l1 0) = some r := h
 clear h
 have H' := aK H
 clear H
 go_enter Tryz.func82, Tryz.ntmps82
 go_wp2
 go_loopg [5] k (fun kq v5 w' => ∃ (x5_1 : Int), v5 = .int .i64 x5_1 ∧ Aside0 (gangsawref50_named.l0 kq l0 l1 x5_1 = some r) ∧ Aside0 (kq ≤ k) ∧ Drawn0 w w')
 case atStart => exact ⟨(0), (by first | rfl | (simp; done) | (simp [*]; done)), H', ⟨Nat.le_refl _⟩, by repeat (first | exact Drawn0.refl _ | apply Drawn0.step)⟩
 case round =>
  clear H'
  try clear c1
  try clear p2
  obtain ⟨x5_1, rfl, HA, HK1, ⟨m1, rfl⟩⟩ := hrel
  cases gk with
  | zero => exact absurd HA.out (by simp [gangsawref50_named.l0])
  | succ k1 =>
   have H := HA.out
   clear HA
   simp only [gangsawref50_named.l0] at H
   by_cases c3 : x5_1 < (l0.length : Int)
   ·rw [if_pos c3] at H
    have c3b0 : decide (x5_1 < (l0.length : Int)) = true := decide_eq_true c3
    clear c3
    by_cases c4 : 0 ≤ x5_1
    ·rw [if_pos c4] at H
     have c4b0 : decide (0 ≤ x5_1) = true := decide_eq_true c4
     clear c4
     replace H := Option.bind_eq_some_iff.mp H
     obtain ⟨t141, A50, H⟩ := H
     replace H : (if t141 = true then ((gangsawref09_Name.f k1 ((rd_T42 l0 x5_1).f1)).bind fun t143 => (if t143 = true then (gangsawref50_named.l0 k1 l0 l1 (wrap64 (x5_1 + 1))) else (some false))) else (some false)) = some r := H
     have A5 := aK A50
     clear A50
     by_cases c6 : t141 = true
     ·subst c6
      have H1 : ((gangsawref09_Name.f k1 ((rd_T42 l0 x5_1).f1)).bind fun t143 => (if t143 = true then (gangsawref50_named.l0 k1 l0 l1 (wrap64 (x5_1 + 1))) else (some false))) = some r := by rw [if_pos rfl] at H; exact H
      clear H
      have H := H1
      clear H1
      replace H := Option.bind_eq_some_iff.mp H
      obtain ⟨t143, A70, H⟩ := H
      replace H : (if t143 = true then (gangsawref50_named.l0 k1 l0 l1 (wrap64 (x5_1 + 1))) else (some false)) = some r := H
      have A7 := aK A70
      clear A70
      by_cases c8 : t143 = true
      ·subst c8
       have H1 : (gangsawref50_named.l0 k1 l0 l1 (wrap64 (x5_1 + 1))) = some r := by rw [if_pos rfl] at H; exact H
       clear H
       have H := H1
       clear H1
       have H' := aK H
       clear H
       have p140 : 0 ≤ (x5_1 : Int) := of_decide_eq_true (by first | (with_reducible assumption) | assumption)
       have q140 : x5_1 < (l0.length : Int) := of_decide_eq_true (by first | (with_reducible assumption) | assumption)
       obtain ⟨ad140, e140, hx140_0, hx140_1, hx140_2⟩ := at_T42 HR0.out x5_1 p140 q140
       cases e140
       replace p140 := eq_true p140
       replace q140 := eq_true q140
       go_wp2_with (first | ((with_reducible refine gate_callee (f := 153) rfl ?_); refine goesL_ (some 19) rfl rfl Tryz.func153 (by kernel_rfl) rfl #[.string ((rd_T42 l0 x5_1).f0)] rfl (by (try simp only [List.map_toArray, List.map_cons, List.map_nil]); first | done | rfl | (simp only [List.length_drop, List.length_take]; rfl)) ?_; (with_reducible refine (gangsawref09_Name.calls k1 ((rd_T42 l0 x5_1).f0) true _ A5.out).mono ?_); rintro e w' ⟨rfl, ⟨nd, rfl⟩⟩; refine ⟨_, rfl, ?_⟩; have p142 : 0 ≤ (x5_1 : Int) := of_decide_eq_true (by first | (with_reducible assumption) | assumption); have q142 : x5_1 < (l0.length : Int) := of_decide_eq_true (by first | (with_reducible assumption) | assumption); obtain ⟨ad142, e142, hx142_0, hx142_1, hx142_2⟩ := at_T42 HR0.out x5_1 p142 q142; obtain rfl : ad140 = ad142 := (by injection e142); replace p142 := eq_true p142; replace q142 := eq_true q142) | (go_at_call 153; (with_reducible refine (gangsawref09_Name.calls k1 ((rd_T42 l0 x5_1).f1) true _ A7.out).mono ?_); rintro e w' ⟨rfl, ⟨nd, rfl⟩⟩))
       go_roundg k1
       case measure => have := HK1.out; omega
       case rel => exact ⟨(wrap64 (x5_1 + 1)), (by first | rfl | (simp; done) | (simp [*]; done)), H', ⟨by have := HK1.out; omega⟩, by repeat (first | exact Drawn0.refl _ | apply Drawn0.step)⟩
      ·replace c8 := Bool.eq_false_iff.mpr c8
       subst c8
       have H1 : (some false) = some r := by rw [if_neg (show ¬ (false = true) by decide)] at H; exact H
       clear H
       have H := H1
       clear H1
       obtain rfl := Option.some.inj H
       simp only [Option.some.injEq, Prod.mk.injEq] at H
       obtain ⟨rfl⟩ := H
       have p140 : 0 ≤ (x5_1 : Int) := of_decide_eq_true (by first | (with_reducible assumption) | assumption)
       have q140 : x5_1 < (l0.length : Int) := of_decide_eq_true (by first | (with_reducible assumption) | assumption)
       obtain ⟨ad140, e140, hx140_0, hx140_1, hx140_2⟩ := at_T42 HR0.out x5_1 p140 q140
       cases e140
       replace p140 := eq_true p140
       replace q140 := eq_true q140
       go_wp2_with (first | ((with_reducible refine gate_callee (f := 153) rfl ?_); refine goesL_ (some 19) rfl rfl Tryz.func153 (by kernel_rfl) rfl #[.string ((rd_T42 l0 x5_1).f0)] rfl (by (try simp only [List.map_toArray, List.map_cons, List.map_nil]); first | done | rfl | (simp only [List.length_drop, List.length_take]; rfl)) ?_; (with_reducible refine (gangsawref09_Name.calls k1 ((rd_T42 l0 x5_1).f0) true _ A5.out).mono ?_); rintro e w' ⟨rfl, ⟨nd, rfl⟩⟩; refine ⟨_, rfl, ?_⟩; have p142 : 0 ≤ (x5_1 : Int) := of_decide_eq_true (by first | (with_reducible assumption) | assumption); have q142 : x5_1 < (l0.length : Int) := of_decide_eq_true (by first | (with_reducible assumption) | assumption); obtain ⟨ad142, e142, hx142_0, hx142_1, hx142_2⟩ := at_T42 HR0.out x5_1 p142 q142; obtain rfl : ad140 = ad142 := (by injection e142); replace p142 := eq_true p142; replace q142 := eq_true q142) | (go_at_call 153; (with_reducible refine (gangsawref09_Name.calls k1 ((rd_T42 l0 x5_1).f1) false _ A7.out).mono ?_); rintro e w' ⟨rfl, ⟨nd, rfl⟩⟩))
       go_ret
       exact ⟨by first | rfl | (simp; done) | (simp [*]; done), by repeat (first | exact Drawn0.refl _ | apply Drawn0.step)⟩
     ·replace c6 := Bool.eq_false_iff.mpr c6
      subst c6
      have H1 : (some false) = some r := by rw [if_neg (show ¬ (false = true) by decide)] at H; exact H
      clear H
      have H := H1
      clear H1
      obtain rfl := Option.some.inj H
      simp only [Option.some.injEq, Prod.mk.injEq] at H
      obtain ⟨rfl⟩ := H
      have p140 : 0 ≤ (x5_1 : Int) := of_decide_eq_true (by first | (with_reducible assumption) | assumption)
      have q140 : x5_1 < (l0.length : Int) := of_decide_eq_true (by first | (with_reducible assumption) | assumption)
      obtain ⟨ad140, e140, hx140_0, hx140_1, hx140_2⟩ := at_T42 HR0.out x5_1 p140 q140
      cases e140
      replace p140 := eq_true p140
      replace q140 := eq_true q140
      go_wp2_with (first | ((with_reducible refine gate_callee (f := 153) rfl ?_); refine goesL_ (some 19) rfl rfl Tryz.func153 (by kernel_rfl) rfl #[.string ((rd_T42 l0 x5_1).f0)] rfl (by (try simp only [List.map_toArray, List.map_cons, List.map_nil]); first | done | rfl | (simp only [List.length_drop, List.length_take]; rfl)) ?_; (with_reducible refine (gangsawref09_Name.calls k1 ((rd_T42 l0 x5_1).f0) false _ A5.out).mono ?_); rintro e w' ⟨rfl, ⟨nd, rfl⟩⟩; refine ⟨_, rfl, ?_⟩))
      go_ret
      exact ⟨by first | rfl | (simp; done) | (simp [*]; done), by repeat (first | exact Drawn0.refl _ | apply Drawn0.step)⟩
    ·rw [if_neg c4] at H
     exact absurd H (by simp)
   ·rw [if_neg c3] at H
    have c3b0 : decide (x5_1 < (l0.length : Int)) = false := decide_eq_false c3
    clear c3
    have H' := aK H
    clear H
    go_wp2
    go_loopg [6] k1 (fun kq v6 w' => ∃ (x6_2 : Int), v6 = .int .i64 x6_2 ∧ Aside0 (gangsawref50_named.l1 kq l1 x6_2 = some r) ∧ Aside0 (kq ≤ k1) ∧ Drawn0 w w')
    case atStart => exact ⟨(0), (by first | rfl | (simp; done) | (simp [*]; done)), H', ⟨Nat.le_refl _⟩, by repeat (first | exact Drawn0.refl _ | apply Drawn0.step)⟩
    case round =>
     clear H'
     try clear c1
     try clear p1
     try clear q1
     try clear hx1
     try clear p2
     try clear c3
     try clear c3b0
     try clear c4
     try clear c4b0
     try clear c6
     try clear p6
     try clear c8
     try clear hx140_0
     try clear hx140_1
     try clear hx140_2
     try clear hx142_0
     try clear hx142_1
     try clear hx142_2
     try clear p140
     try clear p142
     try clear p2
     try clear q140
     try clear q142
     obtain ⟨x6_2, rfl, HA, HK2, ⟨m2, rfl⟩⟩ := hrel
     cases gk with
     | zero => exact absurd HA.out (by simp [gangsawref50_named.l1])
     | succ k2 =>
      have H := HA.out
      clear HA
      simp only [gangsawref50_named.l1] at H
      by_cases c9 : x6_2 < (l1.length : Int)
      ·rw [if_pos c9] at H
       have c9b0 : decide (x6_2 < (l1.length : Int)) = true := decide_eq_true c9
       clear c9
       by_cases c10 : 0 ≤ x6_2
       ·rw [if_pos c10] at H
        have c10b0 : decide (0 ≤ x6_2) = true := decide_eq_true c10
        clear c10
        replace H := Option.bind_eq_some_iff.mp H
        obtain ⟨t145, A110, H⟩ := H
        replace H : (if t145 = true then (gangsawref50_named.l2 k2 l1 x6_2 0) else (some false)) = some r := H
        have A11 := aK A110
        clear A110
        by_cases c12 : t145 = true
        ·subst c12
         have H1 : (gangsawref50_named.l2 k2 l1 x6_2 0) = some r := by rw [if_pos rfl] at H; exact H
         clear H
         have H := H1
         clear H1
         have H' := aK H
         clear H
         have p144 : 0 ≤ (x6_2 : Int) := of_decide_eq_true (by first | (with_reducible assumption) | assumption)
         have q144 : x6_2 < (l1.length : Int) := of_decide_eq_true (by first | (with_reducible assumption) | assumption)
         obtain ⟨ad144, A144_1, c144_1, e144, hx144_0, hx144_1, hx144_2, hx144_3, hx144_4, hl144_1, hi144_1⟩ := at_T38 HR1.out x6_2 p144 q144
         cases e144
         have HR144_1 := aK hi144_1
         have HC144_1 := aK hl144_1
         clear hi144_1 hl144_1
         replace p144 := eq_true p144
         replace q144 := eq_true q144
         go_wp2_with (first | ((with_reducible refine gate_callee (f := 153) rfl ?_); refine goesL_ (some 41) rfl rfl Tryz.func153 (by kernel_rfl) rfl #[.string ((rd_T38 l1 x6_2).f0)] rfl (by (try simp only [List.map_toArray, List.map_cons, List.map_nil]); first | done | rfl | (simp only [List.length_drop, List.length_take]; rfl)) ?_; (with_reducible refine (gangsawref09_Name.calls k2 ((rd_T38 l1 x6_2).f0) true _ A11.out).mono ?_); rintro e w' ⟨rfl, ⟨nd, rfl⟩⟩; refine ⟨_, rfl, ?_⟩))
         go_loopg [7] k2 (fun kq v7 w' => ∃ (x7_3 : Int), v7 = .int .i64 x7_3 ∧ Aside0 (gangsawref50_named.l2 kq l1 x6_2 x7_3 = some r) ∧ Aside0 (kq ≤ k2) ∧ Drawn0 w w')
         case atStart => exact ⟨(0), (by first | rfl | (simp; done) | (simp [*]; done)), H', ⟨Nat.le_refl _⟩, by repeat (first | exact Drawn0.refl _ | apply Drawn0.step)⟩
         case round =>
          clear H'
          try clear c1
          try clear p1
          try clear q1
          try clear hx1
          try clear p2
          try clear c3
          try clear c3b0
          try clear c4
          try clear c4b0
          try clear c6
          try clear p6
          try clear c8
          try clear c9
          try clear c9b0
          try clear c10
          try clear c10b0
          try clear c12
          try clear hx140_0
          try clear hx140_1
          try clear hx140_2
          try clear hx142_0
          try clear hx142_1
          try clear hx142_2
          try clear hx144_0
          try clear hx144_1
          try clear hx144_2
          try clear hx144_3
          try clear hx144_4
          try clear p1
          try clear p140
          try clear p142
          try clear p144
          try clear p2
          try clear p6
          try clear q1
          try clear q140
          try clear q142
          try clear q144
          obtain ⟨x7_3, rfl, HA, HK3, ⟨m3, rfl⟩⟩ := hrel
          cases gk with
          | zero => exact absurd HA.out (by simp [gangsawref50_named.l2])
          | succ k3 =>
           have H := HA.out
           clear HA
           simp only [gangsawref50_named.l2] at H
           by_cases c13 : 0 ≤ x6_2
           ·rw [if_pos c13] at H
            have c13b0 : decide (0 ≤ x6_2) = true := decide_eq_true c13
            clear c13
            by_cases c14 : x6_2 < (l1.length : Int)
            ·rw [if_pos c14] at H
             have c14b0 : decide (x6_2 < (l1.length : Int)) = true := decide_eq_true c14
             clear c14
             by_cases c15 : x7_3 < (((rd_T38 l1 x6_2).f1).length : Int)
             ·rw [if_pos c15] at H
              have c15b0 : decide (x7_3 < (((rd_T38 l1 x6_2).f1).length : Int)) = true := decide_eq_true c15
              clear c15
              by_cases c16 : 0 ≤ x7_3
              ·rw [if_pos c16] at H
               have c16b0 : decide (0 ≤ x7_3) = true := decide_eq_true c16
               clear c16
               replace H := Option.bind_eq_some_iff.mp H
               obtain ⟨t149, A170, H⟩ := H
               replace H : (if t149 = true then (gangsawref50_named.l2 k3 l1 x6_2 (wrap64 (x7_3 + 1))) else (some false)) = some r := H
               have A17 := aK A170
               clear A170
               by_cases c18 : t149 = true
               ·subst c18
                have H1 : (gangsawref50_named.l2 k3 l1 x6_2 (wrap64 (x7_3 + 1))) = some r := by rw [if_pos rfl] at H; exact H
                clear H
                have H := H1
                clear H1
                have H' := aK H
                clear H
                have p146 : 0 ≤ (x6_2 : Int) := of_decide_eq_true (by first | (with_reducible assumption) | assumption)
                have q146 : x6_2 < (l1.length : Int) := of_decide_eq_true (by first | (with_reducible assumption) | assumption)
                obtain ⟨ad146, A146_1, c146_1, e146, hx146_0, hx146_1, hx146_2, hx146_3, hx146_4, hl146_1, hi146_1⟩ := at_T38 HR1.out x6_2 p146 q146
                obtain rfl : ad144 = ad146 := (by injection e146)
                have HR146_1 := aK hi146_1
                have HC146_1 := aK hl146_1
                clear hi146_1 hl146_1
                replace p146 := eq_true p146
                replace q146 := eq_true q146
                have p147 : 0 ≤ (x6_2 : Int) := of_decide_eq_true (by first | (with_reducible assumption) | assumption)
                have q147 : x6_2 < (l1.length : Int) := of_decide_eq_true (by first | (with_reducible assumption) | assumption)
                obtain ⟨ad147, A147_1, c147_1, e147, hx147_0, hx147_1, hx147_2, hx147_3, hx147_4, hl147_1, hi147_1⟩ := at_T38 HR1.out x6_2 p147 q147
                obtain rfl : ad144 = ad147 := (by injection e147)
                have HR147_1 := aK hi147_1
                have HC147_1 := aK hl147_1
                clear hi147_1 hl147_1
                replace p147 := eq_true p147
                replace q147 := eq_true q147
                have ea_ := Option.some.inj (hx146_1.symm.trans hx147_1)
                injection ea_ with ea_ en_ ec_
                subst ea_
                subst ec_
                clear en_
                have p148 : 0 ≤ (x7_3 : Int) := of_decide_eq_true (by first | (with_reducible assumption) | assumption)
                have q148 : x7_3 < (((rd_T38 l1 x6_2).f1).length : Int) := of_decide_eq_true (by first | (with_reducible assumption) | assumption)
                obtain ⟨ad148, e148, hx148_0, hx148_1, hx148_2⟩ := at_T40 HR147_1.out x7_3 p148 q148
                cases e148
                replace p148 := eq_true p148
                replace q148 := eq_true q148
                go_wp2_with (first | ((with_reducible refine gate_callee (f := 153) rfl ?_); refine goesL_ (some 62) rfl rfl Tryz.func153 (by kernel_rfl) rfl #[.string ((rd_T40 ((rd_T38 l1 x6_2).f1) x7_3).f0)] rfl (by (try simp only [List.map_toArray, List.map_cons, List.map_nil]); first | done | rfl | (simp only [List.length_drop, List.length_take]; rfl)) ?_; (with_reducible refine (gangsawref09_Name.calls k3 ((rd_T40 ((rd_T38 l1 x6_2).f1) x7_3).f0) true _ A17.out).mono ?_); rintro e w' ⟨rfl, ⟨nd, rfl⟩⟩; refine ⟨_, rfl, ?_⟩))
                go_roundg k3
                case measure => have := HK1.out; have := HK2.out; have := HK3.out; omega
                case rel => exact ⟨(wrap64 (x7_3 + 1)), (by first | rfl | (simp; done) | (simp [*]; done)), H', ⟨by have := HK1.out; have := HK2.out; have := HK3.out; omega⟩, by repeat (first | exact Drawn0.refl _ | apply Drawn0.step)⟩
               ·replace c18 := Bool.eq_false_iff.mpr c18
                subst c18
                have H1 : (some false) = some r := by rw [if_neg (show ¬ (false = true) by decide)] at H; exact H
                clear H
                have H := H1
                clear H1
                obtain rfl := Option.some.inj H
                simp only [Option.some.injEq, Prod.mk.injEq] at H
                obtain ⟨rfl⟩ := H
                have p146 : 0 ≤ (x6_2 : Int) := of_decide_eq_true (by first | (with_reducible assumption) | assumption)
                have q146 : x6_2 < (l1.length : Int) := of_decide_eq_true (by first | (with_reducible assumption) | assumption)
                obtain ⟨ad146, A146_1, c146_1, e146, hx146_0, hx146_1, hx146_2, hx146_3, hx146_4, hl146_1, hi146_1⟩ := at_T38 HR1.out x6_2 p146 q146
                obtain rfl : ad144 = ad146 := (by injection e146)
                have HR146_1 := aK hi146_1
                have HC146_1 := aK hl146_1
                clear hi146_1 hl146_1
                replace p146 := eq_true p146
                replace q146 := eq_true q146
                have p147 : 0 ≤ (x6_2 : Int) := of_decide_eq_true (by first | (with_reducible assumption) | assumption)
                have q147 : x6_2 < (l1.length : Int) := of_decide_eq_true (by first | (with_reducible assumption) | assumption)
                obtain ⟨ad147, A147_1, c147_1, e147, hx147_0, hx147_1, hx147_2, hx147_3, hx147_4, hl147_1, hi147_1⟩ := at_T38 HR1.out x6_2 p147 q147
                obtain rfl : ad144 = ad147 := (by injection e147)
                have HR147_1 := aK hi147_1
                have HC147_1 := aK hl147_1
                clear hi147_1 hl147_1
                replace p147 := eq_true p147
                replace q147 := eq_true q147
                have ea_ := Option.some.inj (hx146_1.symm.trans hx147_1)
                injection ea_ with ea_ en_ ec_
                subst ea_
                subst ec_
                clear en_
                have p148 : 0 ≤ (x7_3 : Int) := of_decide_eq_true (by first | (with_reducible assumption) | assumption)
                have q148 : x7_3 < (((rd_T38 l1 x6_2).f1).length : Int) := of_decide_eq_true (by first | (with_reducible assumption) | assumption)
                obtain ⟨ad148, e148, hx148_0, hx148_1, hx148_2⟩ := at_T40 HR147_1.out x7_3 p148 q148
                cases e148
                replace p148 := eq_true p148
                replace q148 := eq_true q148
                go_wp2_with (first | ((with_reducible refine gate_callee (f := 153) rfl ?_); refine goesL_ (some 62) rfl rfl Tryz.func153 (by kernel_rfl) rfl #[.string ((rd_T40 ((rd_T38 l1 x6_2).f1) x7_3).f0)] rfl (by (try simp only [List.map_toArray, List.map_cons, List.map_nil]); first | done | rfl | (simp only [List.length_drop, List.length_take]; rfl)) ?_; (with_reducible refine (gangsawref09_Name.calls k3 ((rd_T40 ((rd_T38 l1 x6_2).f1) x7_3).f0) false _ A17.out).mono ?_); rintro e w' ⟨rfl, ⟨nd, rfl⟩⟩; refine ⟨_, rfl, ?_⟩))
                go_ret
                exact ⟨by first | rfl | (simp; done) | (simp [*]; done), by repeat (first | exact Drawn0.refl _ | apply Drawn0.step)⟩
              ·rw [if_neg c16] at H
               exact absurd H (by simp)
             ·rw [if_neg c15] at H
              have c15b0 : decide (x7_3 < (((rd_T38 l1 x6_2).f1).length : Int)) = false := decide_eq_false c15
              clear c15
              have H' := aK H
              clear H
              have p146 : 0 ≤ (x6_2 : Int) := of_decide_eq_true (by first | (with_reducible assumption) | assumption)
              have q146 : x6_2 < (l1.length : Int) := of_decide_eq_true (by first | (with_reducible assumption) | assumption)
              obtain ⟨ad146, A146_1, c146_1, e146, hx146_0, hx146_1, hx146_2, hx146_3, hx146_4, hl146_1, hi146_1⟩ := at_T38 HR1.out x6_2 p146 q146
              obtain rfl : ad144 = ad146 := (by injection e146)
              have HR146_1 := aK hi146_1
              have HC146_1 := aK hl146_1
              clear hi146_1 hl146_1
              replace p146 := eq_true p146
              replace q146 := eq_true q146
              go_wp2
              go_roundg k3
              case measure => have := HK1.out; have := HK2.out; have := HK3.out; omega
              case rel => exact ⟨(wrap64 (x6_2 + 1)), (by first | rfl | (simp; done) | (simp [*]; done)), H', ⟨by have := HK1.out; have := HK2.out; have := HK3.out; omega⟩, by repeat (first | exact Drawn0.refl _ | apply Drawn0.step)⟩
            ·rw [if_neg c14] at H
             exact absurd H (by simp)
           ·rw [if_neg c13] at H
            exact absurd H (by simp)
        ·replace c12 := Bool.eq_false_iff.mpr c12
         subst c12
         have H1 : (some false) = some r := by rw [if_neg (show ¬ (false = true) by decide)] at H; exact H
         clear H
         have H := H1
         clear H1
         obtain rfl := Option.some.inj H
         simp only [Option.some.injEq, Prod.mk.injEq] at H
         obtain ⟨rfl⟩ := H
         have p144 : 0 ≤ (x6_2 : Int) := of_decide_eq_true (by first | (with_reducible assumption) | assumption)
         have q144 : x6_2 < (l1.length : Int) := of_decide_eq_true (by first | (with_reducible assumption) | assumption)
         obtain ⟨ad144, A144_1, c144_1, e144, hx144_0, hx144_1, hx144_2, hx144_3, hx144_4, hl144_1, hi144_1⟩ := at_T38 HR1.out x6_2 p144 q144
         cases e144
         have HR144_1 := aK hi144_1
         have HC144_1 := aK hl144_1
         clear hi144_1 hl144_1
         replace p144 := eq_true p144
         replace q144 := eq_true q144
         go_wp2_with (first | ((with_reducible refine gate_callee (f := 153) rfl ?_); refine goesL_ (some 41) rfl rfl Tryz.func153 (by kernel_rfl) rfl #[.string ((rd_T38 l1 x6_2).f0)] rfl (by (try simp only [List.map_toArray, List.map_cons, List.map_nil]); first | done | rfl | (simp only [List.length_drop, List.length_take]; rfl)) ?_; (with_reducible refine (gangsawref09_Name.calls k2 ((rd_T38 l1 x6_2).f0) false _ A11.out).mono ?_); rintro e w' ⟨rfl, ⟨nd, rfl⟩⟩; refine ⟨_, rfl, ?_⟩))
         go_ret
         exact ⟨by first | rfl | (simp; done) | (simp [*]; done), by repeat (first | exact Drawn0.refl _ | apply Drawn0.step)⟩
       ·rw [if_neg c10] at H
        exact absurd H (by simp)
      ·rw [if_neg c9] at H
       have c9b0 : decide (x6_2 < (l1.length : Int)) = false := decide_eq_false c9
       clear c9
       obtain rfl := Option.some.inj H
       simp only [Option.some.injEq, Prod.mk.injEq] at H
       obtain ⟨rfl⟩ := H
       go_wp2
       go_ret
       exact ⟨by first | rfl | (simp; done) | (simp [*]; done), by repeat (first | exact Drawn0.refl _ | apply Drawn0.step)⟩

end Go.Proofs.YtkdbcaegeeeiaaaGreat.P
