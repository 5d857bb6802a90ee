/- What functions of the program return: each contract says so of one function, for every input at which its pure function yields. -/
import Derived.Test.YtkdbcaegeeeiaaaGreatPx0
import Derived.Test.YtkdbcaegeeeiaaaGreatPx5
namespace Go.Proofs.YtkdbcaegeeeiaaaGreat.P
open Go.RowKit Go.Proofs.YtkdbcaegeeeiaaaGreatW.PrintWords Go.Proofs.YtkdbcaegeeeiaaaGreatW.PrintLast Go.Proofs.YtkdbcaegeeeiaaaGreatW.PrintMore
attribute [local go_sem] max2_int min2_int max_two min_two max_three min_three max_four min_four   -- for this text's walks alone
set_option linter.unusedVariables false
set_option linter.unusedSimpArgs false

mutual
def gangsawref50_ranged.l0 : Nat → List (S42) → List (S38) → Int → Option (Bool)
 | 0, _, _, _ => none
 | k + 1, x0, x1, x5 => if x5 < (x0.length : Int) then (if 0 ≤ x5 then ((gangsawref50_in.f ((rd_T42 x0 x5).f2) 0 1440).bind fun t151 => (if t151 = true then (gangsawref50_ranged.l0 k x0 x1 (wrap64 (x5 + 1))) else (some false))) else (none)) else (gangsawref50_ranged.l1 k x1 0)
def gangsawref50_ranged.l1 : Nat → List (S38) → Int → Option (Bool)
 | 0, _, _ => none
 | k + 1, x1, x6 => if x6 < (x1.length : Int) then (if 0 ≤ x6 then ((gangsawref50_in.f ((rd_T38 x1 x6).f2) 0 1000000).bind fun t154 => (if t154 = true then ((gangsawref50_in.f ((rd_T38 x1 x6).f3) 0 1000000).bind fun t155 => (if t155 = true then ((gangsawref50_in.f ((rd_T38 x1 x6).f4) 0 100).bind fun t156 => (gangsawref50_ranged.j2 k x1 x6 (!t156) ((rd_T38 x1 x6).f0) ((rd_T38 x1 x6).f1) ((rd_T38 x1 x6).f2) ((rd_T38 x1 x6).f3) ((rd_T38 x1 x6).f4))) else (gangsawref50_ranged.j2 k x1 x6 true ((rd_T38 x1 x6).f0) ((rd_T38 x1 x6).f1) ((rd_T38 x1 x6).f2) ((rd_T38 x1 x6).f3) ((rd_T38 x1 x6).f4)))) else (gangsawref50_ranged.j2 k x1 x6 true ((rd_T38 x1 x6).f0) ((rd_T38 x1 x6).f1) ((rd_T38 x1 x6).f2) ((rd_T38 x1 x6).f3) ((rd_T38 x1 x6).f4)))) else (none)) else (some true)
def gangsawref50_ranged.j2 : Nat → List (S38) → Int → Bool → ByteArray → List (S40) → Int → Int → Int → Option (Bool)
 | 0, _, _, _, _, _, _, _, _ => none
 | k + 1, x1, x6, x47, x154000, x154001, x154002, x154003, x154004 => if x47 = true then (some false) else (gangsawref50_ranged.l2 k x1 x6 0 x154000 x154001 x154002 x154003 x154004)
def gangsawref50_ranged.l2 : Nat → List (S38) → Int → Int → ByteArray → List (S40) → Int → Int → Int → Option (Bool)
 | 0, _, _, _, _, _, _, _, _ => none
 | k + 1, x1, x6, x8, x154000, x154001, x154002, x154003, x154004 => if x8 < (x154001.length : Int) then (if 0 ≤ x8 then ((gangsawref50_in.f ((rd_T40 x154001 x8).f1) 1 1000000).bind fun t158 => (if t158 = true then ((gangsawref50_in.f ((rd_T40 x154001 x8).f2) 0 1000000).bind fun t160 => (if t160 = true then (gangsawref50_ranged.l2 k x1 x6 (wrap64 (x8 + 1)) x154000 x154001 x154002 x154003 x154004) else (some false))) else (some false))) else (none)) else (gangsawref50_ranged.l1 k x1 (wrap64 (x6 + 1)))
end
def gangsawref50_ranged.f (k : Nat) (l0 : List (S42)) (l1 : List (S38)) : Option (Bool) := gangsawref50_ranged.l0 k l0 l1 0
theorem gangsawref50_ranged.mono_l : ∀ k, (∀ y0 y1 y2, LeO (gangsawref50_ranged.l0 k y0 y1 y2) (gangsawref50_ranged.l0 (k + 1) y0 y1 y2)) ∧ (∀ y0 y1, LeO (gangsawref50_ranged.l1 k y0 y1) (gangsawref50_ranged.l1 (k + 1) y0 y1)) ∧ (∀ y0 y1 y2 y3 y4 y5 y6 y7, LeO (gangsawref50_ranged.j2 k y0 y1 y2 y3 y4 y5 y6 y7) (gangsawref50_ranged.j2 (k + 1) y0 y1 y2 y3 y4 y5 y6 y7)) ∧ (∀ y0 y1 y2 y3 y4 y5 y6 y7, LeO (gangsawref50_ranged.l2 k y0 y1 y2 y3 y4 y5 y6 y7) (gangsawref50_ranged.l2 (k + 1) y0 y1 y2 y3 y4 y5 y6 y7))
 | 0 => ⟨fun _ _ _ r h => by simp [gangsawref50_ranged.l0] at h, fun _ _ r h => by simp [gangsawref50_ranged.l1] at h, fun _ _ _ _ _ _ _ _ r h => by simp [gangsawref50_ranged.j2] at h, fun _ _ _ _ _ _ _ _ r h => by simp [gangsawref50_ranged.l2] at h⟩
 | k + 1 => by
  obtain ⟨ih0, ih1, ih2, ih3⟩ := gangsawref50_ranged.mono_l k
  refine ⟨?_, ?_, ?_, ?_⟩
  ·intro y0 y1 y2
   unfold gangsawref50_ranged.l0
   repeat' first
   | (with_reducible exact ih0 _ _ _)
   | (with_reducible exact ih1 _ _)
   | (with_reducible exact ih2 _ _ _ _ _ _ _ _)
   | (with_reducible exact ih3 _ _ _ _ _ _ _ _)
   | (with_reducible exact LeO.refl _)
   | (with_reducible exact LeO.none _)
   | (with_reducible refine LeO.ite ?_ ?_)
   | (with_reducible refine LeO.bind ?_ (fun _ => ?_))
   | exact ih0 _ _ _
   | exact ih1 _ _
   | exact ih2 _ _ _ _ _ _ _ _
   | exact ih3 _ _ _ _ _ _ _ _
   | exact LeO.none _
   | refine LeO.ite ?_ ?_
   | refine LeO.bind ?_ (fun _ => ?_)
  ·intro y0 y1
   unfold gangsawref50_ranged.l1
   repeat' first
   | (with_reducible exact ih0 _ _ _)
   | (with_reducible exact ih1 _ _)
   | (with_reducible exact ih2 _ _ _ _ _ _ _ _)
   | (with_reducible exact ih3 _ _ _ _ _ _ _ _)
   | (with_reducible exact LeO.refl _)
   | (with_reducible exact LeO.none _)
   | (with_reducible refine LeO.ite ?_ ?_)
   | (with_reducible refine LeO.bind ?_ (fun _ => ?_))
   | exact ih0 _ _ _
   | exact ih1 _ _
   | exact ih2 _ _ _ _ _ _ _ _
   | exact ih3 _ _ _ _ _ _ _ _
   | exact LeO.none _
   | refine LeO.ite ?_ ?_
   | refine LeO.bind ?_ (fun _ => ?_)
  ·intro y0 y1 y2 y3 y4 y5 y6 y7
   unfold gangsawref50_ranged.j2
   repeat' first
   | (with_reducible exact ih0 _ _ _)
   | (with_reducible exact ih1 _ _)
   | (with_reducible exact ih2 _ _ _ _ _ _ _ _)
   | (with_reducible exact ih3 _ _ _ _ _ _ _ _)
   | (with_reducible exact LeO.refl _)
   | (with_reducible exact LeO.none _)
   | (with_reducible refine LeO.ite ?_ ?_)
   | (with_reducible refine LeO.bind ?_ (fun _ => ?_))
   | exact ih0 _ _ _
   | exact ih1 _ _
   | exact ih2 _ _ _ _ _ _ _ _
   | exact ih3 _ _ _ _ _ _ _ _
   | exact LeO.none _
   | refine LeO.ite ?_ ?_
   | refine LeO.bind ?_ (fun _ => ?_)
  ·intro y0 y1 y2 y3 y4 y5 y6 y7
   unfold gangsawref50_ranged.l2
   repeat' first
   | (with_reducible exact ih0 _ _ _)
   | (with_reducible exact ih1 _ _)
   | (with_reducible exact ih2 _ _ _ _ _ _ _ _)
   | (with_reducible exact ih3 _ _ _ _ _ _ _ _)
   | (with_reducible exact LeO.refl _)
   | (with_reducible exact LeO.none _)
   | (with_reducible refine LeO.ite ?_ ?_)
   | (with_reducible refine LeO.bind ?_ (fun _ => ?_))
   | exact ih0 _ _ _
   | exact ih1 _ _
   | exact ih2 _ _ _ _ _ _ _ _
   | exact ih3 _ _ _ _ _ _ _ _
   | exact LeO.none _
   | refine LeO.ite ?_ ?_
   | refine LeO.bind ?_ (fun _ => ?_)
theorem gangsawref50_ranged.mono : ∀ a0 a1 k, LeO (gangsawref50_ranged.f k a0 a1) (gangsawref50_ranged.f (k + 1) a0 a1) := by
 intro a0 a1 k
 obtain ⟨ih0, ih1, ih2, ih3⟩ := gangsawref50_ranged.mono_l k
 unfold gangsawref50_ranged.f
 repeat' first
   | (with_reducible exact ih0 _ _ _)
   | (with_reducible exact ih1 _ _)
   | (with_reducible exact ih2 _ _ _ _ _ _ _ _)
   | (with_reducible exact ih3 _ _ _ _ _ _ _ _)
   | (with_reducible exact LeO.refl _)
   | (with_reducible exact LeO.none _)
   | (with_reducible refine LeO.ite ?_ ?_)
   | (with_reducible refine LeO.bind ?_ (fun _ => ?_))
   | exact ih0 _ _ _
   | exact ih1 _ _
   | exact ih2 _ _ _ _ _ _ _ _
   | exact ih3 _ _ _ _ _ _ _ _
   | exact LeO.none _
   | refine LeO.ite ?_ ?_
   | refine LeO.bind ?_ (fun _ => ?_)
set_option maxHeartbeats 8000000 in
set_option maxRecDepth 100000 in
theorem gangsawref50_ranged.calls (k : Nat) (A0 : Option Addr) (c0 : Nat) (l0 : List (S42)) (A1 : Option Addr) (c1 : Nat) (l1 : List (S38)) (r : Bool) (w : World) (hr0 : Kd.C k42 w A0 l0.length l0) (hc0 : l0.length ≤ c0) (hr1 : Kd.C k38 w A1 l1.length l1) (hc1 : l1.length ≤ c1) (h : gangsawref50_ranged.f k l0 l1 = some r) :
  Calls Tryz.prog 83 #[.slice A0 l0.length c0, .slice A1 l1.length c1] w fun e w' => e = .returned (.bool r) ∧ Below w.heap.size w w' := by
 have hu38 := Tryz.underlying38
 have HR0 := aK hr0
 have HC0 := aK hc0
 clear hr0 hc0
 have HR1 := aK hr1
 have HC1 := aK hc1
 clear hr1 hc1
 have HB := aK (Below.refl w.heap.size w)
 have H : (gangsawref50_ranged.l0 k l0 l1 0) = some r := h
 clear h
 have H' := aK H
 clear H
 go_enter Tryz.func83, Tryz.ntmps83
 go_wp2
 go_loopg [5] k (fun kq v5 w' => ∃ (x5_1 : Int), v5 = .int .i64 x5_1 ∧ Aside0 (gangsawref50_ranged.l0 kq l0 l1 x5_1 = some r) ∧ Aside0 (kq ≤ k) ∧ Aside0 (Below w.heap.size w w'))
 case atStart => exact ⟨(0), (by first | rfl | (simp; done) | (simp [*]; done)), H', ⟨Nat.le_refl _⟩, ⟨by repeat (first | (with_reducible first | exact HB.out | apply yA | apply yN | apply yD) | exact HB.out)⟩⟩
 case round =>
  clear H'
  try clear c1
  try clear p2
  obtain ⟨x5_1, rfl, HA, HK1, HB⟩ := hrel
  cases gk with
  | zero => exact absurd HA.out (by simp [gangsawref50_ranged.l0])
  | succ k1 =>
   have H := HA.out
   clear HA
   simp only [gangsawref50_ranged.l0] at H
   by_cases c3 : x5_1 < (l0.length : Int)
   ·rw [if_pos c3] at H
    have c3b0 : decide (x5_1 < (l0.length : Int)) = true := decide_eq_true c3
    clear c3
    by_cases c4 : 0 ≤ x5_1
    ·rw [if_pos c4] at H
     have c4b0 : decide (0 ≤ x5_1) = true := decide_eq_true c4
     clear c4
     replace H := Option.bind_eq_some_iff.mp H
     obtain ⟨t151, A50, H⟩ := H
     replace H : (if t151 = true then (gangsawref50_ranged.l0 k1 l0 l1 (wrap64 (x5_1 + 1))) else (some false)) = some r := H
     have A5 := aK A50
     clear A50
     by_cases c6 : t151 = true
     ·subst c6
      have H1 : (gangsawref50_ranged.l0 k1 l0 l1 (wrap64 (x5_1 + 1))) = some r := by rw [if_pos rfl] at H; exact H
      clear H
      have H := H1
      clear H1
      have H' := aK H
      clear H
      have p150 : 0 ≤ (x5_1 : Int) := of_decide_eq_true (by first | (with_reducible assumption) | assumption)
      have q150 : x5_1 < (l0.length : Int) := of_decide_eq_true (by first | (with_reducible assumption) | assumption)
      obtain ⟨ad150, e150, hx150_0, hx150_1, hx150_2⟩ := at_T42 HR0.out x5_1 p150 q150
      cases e150
      replace hx150_0 := (HB.out.cell (World.block_lt_of_cell? w _ hx150_0)).trans hx150_0
      replace hx150_1 := (HB.out.cell (World.block_lt_of_cell? w _ hx150_1)).trans hx150_1
      replace hx150_2 := (HB.out.cell (World.block_lt_of_cell? w _ hx150_2)).trans hx150_2
      replace p150 := eq_true p150
      replace q150 := eq_true q150
      go_wp2_with (first | ((with_reducible refine gate_callee (f := 61) rfl ?_); refine goesL_ (some 20) rfl rfl Tryz.func61 (by kernel_rfl) rfl #[.int .i64 ((rd_T42 l0 x5_1).f2), .int .i64 0, .int .i64 1440] rfl (by (try simp only [List.map_toArray, List.map_cons, List.map_nil]); first | done | rfl | (simp only [List.length_drop, List.length_take]; rfl)) ?_; (with_reducible refine (gangsawref50_in.calls ((rd_T42 l0 x5_1).f2) 0 1440 true _ A5.out).mono ?_); rintro e w' ⟨rfl, ⟨nd, rfl⟩⟩; refine ⟨_, rfl, ?_⟩))
      go_roundg k1
      case measure => have := HK1.out; omega
      case rel => exact ⟨(wrap64 (x5_1 + 1)), (by first | rfl | (simp; done) | (simp [*]; done)), H', ⟨by have := HK1.out; omega⟩, ⟨by repeat (first | (with_reducible first | exact HB.out | apply yA | apply yN | apply yD) | exact HB.out)⟩⟩
     ·replace c6 := Bool.eq_false_iff.mpr c6
      subst c6
      have H1 : (some false) = some r := by rw [if_neg (show ¬ (false = true) by decide)] at H; exact H
      clear H
      have H := H1
      clear H1
      obtain rfl := Option.some.inj H
      simp only [Option.some.injEq, Prod.mk.injEq] at H
      obtain ⟨rfl⟩ := H
      have p150 : 0 ≤ (x5_1 : Int) := of_decide_eq_true (by first | (with_reducible assumption) | assumption)
      have q150 : x5_1 < (l0.length : Int) := of_decide_eq_true (by first | (with_reducible assumption) | assumption)
      obtain ⟨ad150, e150, hx150_0, hx150_1, hx150_2⟩ := at_T42 HR0.out x5_1 p150 q150
      cases e150
      replace hx150_0 := (HB.out.cell (World.block_lt_of_cell? w _ hx150_0)).trans hx150_0
      replace hx150_1 := (HB.out.cell (World.block_lt_of_cell? w _ hx150_1)).trans hx150_1
      replace hx150_2 := (HB.out.cell (World.block_lt_of_cell? w _ hx150_2)).trans hx150_2
      replace p150 := eq_true p150
      replace q150 := eq_true q150
      go_wp2_with (first | ((with_reducible refine gate_callee (f := 61) rfl ?_); refine goesL_ (some 20) rfl rfl Tryz.func61 (by kernel_rfl) rfl #[.int .i64 ((rd_T42 l0 x5_1).f2), .int .i64 0, .int .i64 1440] rfl (by (try simp only [List.map_toArray, List.map_cons, List.map_nil]); first | done | rfl | (simp only [List.length_drop, List.length_take]; rfl)) ?_; (with_reducible refine (gangsawref50_in.calls ((rd_T42 l0 x5_1).f2) 0 1440 false _ A5.out).mono ?_); rintro e w' ⟨rfl, ⟨nd, rfl⟩⟩; refine ⟨_, rfl, ?_⟩))
      go_ret
      exact ⟨by first | rfl | (simp [errW_none, errW_some] <;> rfl) | (simp [*, errW_none, errW_some] <;> rfl), by repeat (first | (with_reducible first | exact HB.out | apply yA | apply yN | apply yD) | exact HB.out)⟩
    ·rw [if_neg c4] at H
     exact absurd H (by simp)
   ·rw [if_neg c3] at H
    have c3b0 : decide (x5_1 < (l0.length : Int)) = false := decide_eq_false c3
    clear c3
    have H' := aK H
    clear H
    go_wp2
    go_loopg [6] k1 (fun kq v6 w' => ∃ (x6_2 : Int), v6 = .int .i64 x6_2 ∧ Aside0 (gangsawref50_ranged.l1 kq l1 x6_2 = some r) ∧ Aside0 (kq ≤ k1) ∧ Aside0 (Below w.heap.size w w'))
    case atStart => exact ⟨(0), (by first | rfl | (simp; done) | (simp [*]; done)), H', ⟨Nat.le_refl _⟩, ⟨by repeat (first | (with_reducible first | exact HB.out | apply yA | apply yN | apply yD) | exact HB.out)⟩⟩
    case round =>
     clear H'
     try clear c1
     try clear p1
     try clear q1
     try clear hx1
     try clear p2
     try clear c3
     try clear c3b0
     try clear c4
     try clear c4b0
     try clear c6
     try clear p6
     try clear hx150_0
     try clear hx150_1
     try clear hx150_2
     try clear p150
     try clear p2
     try clear q150
     obtain ⟨x6_2, rfl, HA, HK2, HB⟩ := hrel
     cases gk with
     | zero => exact absurd HA.out (by simp [gangsawref50_ranged.l1])
     | succ k2 =>
      have H := HA.out
      clear HA
      simp only [gangsawref50_ranged.l1] at H
      by_cases c7 : x6_2 < (l1.length : Int)
      ·rw [if_pos c7] at H
       have c7b0 : decide (x6_2 < (l1.length : Int)) = true := decide_eq_true c7
       clear c7
       by_cases c8 : 0 ≤ x6_2
       ·rw [if_pos c8] at H
        have c8b0 : decide (0 ≤ x6_2) = true := decide_eq_true c8
        clear c8
        have HC9 := aK H
        clear H
        have p152 : 0 ≤ (x6_2 : Int) := of_decide_eq_true (by first | (with_reducible assumption) | assumption)
        have q152 : x6_2 < (l1.length : Int) := of_decide_eq_true (by first | (with_reducible assumption) | assumption)
        obtain ⟨ad152, A152_1, c152_1, e152, hx152_0, hx152_1, hx152_2, hx152_3, hx152_4, hl152_1, hi152_1⟩ := at_T38 HR1.out x6_2 p152 q152
        cases e152
        replace hx152_0 := (HB.out.cell (World.block_lt_of_cell? w _ hx152_0)).trans hx152_0
        replace hx152_1 := (HB.out.cell (World.block_lt_of_cell? w _ hx152_1)).trans hx152_1
        replace hx152_2 := (HB.out.cell (World.block_lt_of_cell? w _ hx152_2)).trans hx152_2
        replace hx152_3 := (HB.out.cell (World.block_lt_of_cell? w _ hx152_3)).trans hx152_3
        replace hx152_4 := (HB.out.cell (World.block_lt_of_cell? w _ hx152_4)).trans hx152_4
        have HR152_1 := aK hi152_1
        have HC152_1 := aK hl152_1
        clear hi152_1 hl152_1
        replace p152 := eq_true p152
        replace q152 := eq_true q152
        go_upto_region 10 with (first | ((with_reducible refine gate_dst (N := 7) rfl ?_); refine box_event ?hg (N := 7) ?hd (cs := #[.string (⟨#[]⟩ : ByteArray), .slice none 0 0, .int .i64 0, .int .i64 0, .int .i64 0]) (t := 38) ?hr ?_; (case hd => rfl); (case hg => rfl); (case hr => first | (go_simp; done) | (go_simp; rfl)); intro gb153 hg w10 hbox hb; have ⟨n0_, n2_⟩ := zV (w := w) hb hg (by repeat (first | (with_reducible first | exact HB.out | apply yA | apply yN | apply yD) | exact HB.out)); have n1_ := aK (hbox); have n3_ := n2_; clear HB; have HB := n0_; have BK153 := n1_; have GW153 := n2_; have GE153 := n3_; clear n0_ n1_ n2_ n3_; clear hb hbox hg; have hcz11_0 := zI BK153 0 rfl; have hcz11_1 := zI BK153 1 rfl; have hcz11_2 := zI BK153 2 rfl; have hcz11_3 := zI BK153 3 rfl; have hcz11_4 := zI BK153 4 rfl; have hfz11_0 := zF BK153.out 0; have hfz11_1 := zF BK153.out 1; have hfz11_2 := zF BK153.out 2; have hfz11_3 := zF BK153.out 3; have hfz11_4 := zF BK153.out 4))
        (try simp only [Act.put, sA, sZ, sS])
        go_cut [47] (fun v47 wc => ∃ (kq : Nat) (x47_8 : Bool), v47 = .bool x47_8 ∧ Aside0 (gangsawref50_ranged.j2 kq l1 x6_2 x47_8 ((rd_T38 l1 x6_2).f0) ((rd_T38 l1 x6_2).f1) ((rd_T38 l1 x6_2).f2) ((rd_T38 l1 x6_2).f3) ((rd_T38 l1 x6_2).f4) = some r) ∧ Aside0 (kq ≤ k2) ∧ Aside0 (wc.heap[gb153]? = some (.cells #[.string ((rd_T38 l1 x6_2).f0), (.slice A152_1 ((rd_T38 l1 x6_2).f1).length c152_1), .int .i64 ((rd_T38 l1 x6_2).f2), .int .i64 ((rd_T38 l1 x6_2).f3), .int .i64 ((rd_T38 l1 x6_2).f4)] 38 (0, 0))) ∧ Aside0 (Below w.heap.size w wc))
        case first =>
         have H := HC9.out
         clear HC9
         replace H := Option.bind_eq_some_iff.mp H
         obtain ⟨t154, A120, H⟩ := H
         replace H : (if t154 = true then ((gangsawref50_in.f ((rd_T38 l1 x6_2).f3) 0 1000000).bind fun t155 => (if t155 = true then ((gangsawref50_in.f ((rd_T38 l1 x6_2).f4) 0 100).bind fun t156 => (gangsawref50_ranged.j2 k2 l1 x6_2 (!t156) ((rd_T38 l1 x6_2).f0) ((rd_T38 l1 x6_2).f1) ((rd_T38 l1 x6_2).f2) ((rd_T38 l1 x6_2).f3) ((rd_T38 l1 x6_2).f4))) else (gangsawref50_ranged.j2 k2 l1 x6_2 true ((rd_T38 l1 x6_2).f0) ((rd_T38 l1 x6_2).f1) ((rd_T38 l1 x6_2).f2) ((rd_T38 l1 x6_2).f3) ((rd_T38 l1 x6_2).f4)))) else (gangsawref50_ranged.j2 k2 l1 x6_2 true ((rd_T38 l1 x6_2).f0) ((rd_T38 l1 x6_2).f1) ((rd_T38 l1 x6_2).f2) ((rd_T38 l1 x6_2).f3) ((rd_T38 l1 x6_2).f4))) = some r := H
         have A12 := aK A120
         clear A120
         by_cases c13 : t154 = true
         ·subst c13
          have H1 : ((gangsawref50_in.f ((rd_T38 l1 x6_2).f3) 0 1000000).bind fun t155 => (if t155 = true then ((gangsawref50_in.f ((rd_T38 l1 x6_2).f4) 0 100).bind fun t156 => (gangsawref50_ranged.j2 k2 l1 x6_2 (!t156) ((rd_T38 l1 x6_2).f0) ((rd_T38 l1 x6_2).f1) ((rd_T38 l1 x6_2).f2) ((rd_T38 l1 x6_2).f3) ((rd_T38 l1 x6_2).f4))) else (gangsawref50_ranged.j2 k2 l1 x6_2 true ((rd_T38 l1 x6_2).f0) ((rd_T38 l1 x6_2).f1) ((rd_T38 l1 x6_2).f2) ((rd_T38 l1 x6_2).f3) ((rd_T38 l1 x6_2).f4)))) = some r := by rw [if_pos rfl] at H; exact H
          clear H
          have H := H1
          clear H1
          replace H := Option.bind_eq_some_iff.mp H
          obtain ⟨t155, A140, H⟩ := H
          replace H : (if t155 = true then ((gangsawref50_in.f ((rd_T38 l1 x6_2).f4) 0 100).bind fun t156 => (gangsawref50_ranged.j2 k2 l1 x6_2 (!t156) ((rd_T38 l1 x6_2).f0) ((rd_T38 l1 x6_2).f1) ((rd_T38 l1 x6_2).f2) ((rd_T38 l1 x6_2).f3) ((rd_T38 l1 x6_2).f4))) else (gangsawref50_ranged.j2 k2 l1 x6_2 true ((rd_T38 l1 x6_2).f0) ((rd_T38 l1 x6_2).f1) ((rd_T38 l1 x6_2).f2) ((rd_T38 l1 x6_2).f3) ((rd_T38 l1 x6_2).f4))) = some r := H
          have A14 := aK A140
          clear A140
          by_cases c15 : t155 = true
          ·subst c15
           have H1 : ((gangsawref50_in.f ((rd_T38 l1 x6_2).f4) 0 100).bind fun t156 => (gangsawref50_ranged.j2 k2 l1 x6_2 (!t156) ((rd_T38 l1 x6_2).f0) ((rd_T38 l1 x6_2).f1) ((rd_T38 l1 x6_2).f2) ((rd_T38 l1 x6_2).f3) ((rd_T38 l1 x6_2).f4))) = some r := by rw [if_pos rfl] at H; exact H
           clear H
           have H := H1
           clear H1
           replace H := Option.bind_eq_some_iff.mp H
           obtain ⟨t156, A160, H⟩ := H
           replace H : (gangsawref50_ranged.j2 k2 l1 x6_2 (!t156) ((rd_T38 l1 x6_2).f0) ((rd_T38 l1 x6_2).f1) ((rd_T38 l1 x6_2).f2) ((rd_T38 l1 x6_2).f3) ((rd_T38 l1 x6_2).f4)) = some r := H
           have A16 := aK A160
           clear A160
           have H' := aK H
           clear H
           have hcz17_0 := zI BK153 0 rfl
           have hcz17_1 := zI BK153 1 rfl
           have hcz17_2 := zI BK153 2 rfl
           have hcz17_3 := zI BK153 3 rfl
           have hcz17_4 := zI BK153 4 rfl
           have hfz17_0 := zF BK153.out 0
           have hfz17_1 := zF BK153.out 1
           have hfz17_2 := zF BK153.out 2
           have hfz17_3 := zF BK153.out 3
           have hfz17_4 := zF BK153.out 4
           go_wp2_with (first | ((with_reducible refine gate_callee (f := 61) rfl ?_); refine goesL_ (some 34) rfl rfl Tryz.func61 (by kernel_rfl) rfl #[.int .i64 ((rd_T38 l1 x6_2).f2), .int .i64 0, .int .i64 1000000] rfl (by (try simp only [List.map_toArray, List.map_cons, List.map_nil]); first | done | rfl | (simp only [List.length_drop, List.length_take]; rfl)) ?_; (with_reducible refine (gangsawref50_in.calls ((rd_T38 l1 x6_2).f2) 0 1000000 true _ A12.out).mono ?_); rintro e w' ⟨rfl, ⟨nd, rfl⟩⟩; refine ⟨_, rfl, ?_⟩) | (go_at_call 61; (with_reducible refine (gangsawref50_in.calls ((rd_T38 l1 x6_2).f3) 0 1000000 true _ A14.out).mono ?_); rintro e w' ⟨rfl, ⟨nd, rfl⟩⟩) | (go_at_call 61; (with_reducible refine (gangsawref50_in.calls ((rd_T38 l1 x6_2).f4) 0 100 t156 _ A16.out).mono ?_); rintro e w' ⟨rfl, ⟨nd, rfl⟩⟩))
           go_meet
           case rel => exact ⟨_, (!t156), (by first | rfl | (simp; done) | (simp [*]; done)), H', ⟨by have := HK1.out; have := HK2.out; first | omega | exact Nat.le_refl _⟩, ⟨by (with_reducible repeat (first | refine zN ?_ _ | refine zD ?_ | refine zA ?_ _)); refine blk_put (cs := #[.string ((rd_T38 l1 x6_2).f0), .slice A152_1 ((rd_T38 l1 x6_2).f1).length c152_1, .int .i64 ((rd_T38 l1 x6_2).f2), .int .i64 ((rd_T38 l1 x6_2).f3), .int .i64 0]) ?_ 4 _ rfl; (with_reducible repeat (first | refine zN ?_ _ | refine zD ?_ | refine zA ?_ _)); refine blk_put (cs := #[.string ((rd_T38 l1 x6_2).f0), .slice A152_1 ((rd_T38 l1 x6_2).f1).length c152_1, .int .i64 ((rd_T38 l1 x6_2).f2), .int .i64 0, .int .i64 0]) ?_ 3 _ rfl; (with_reducible repeat (first | refine zN ?_ _ | refine zD ?_ | refine zA ?_ _)); refine blk_put (cs := #[.string ((rd_T38 l1 x6_2).f0), .slice A152_1 ((rd_T38 l1 x6_2).f1).length c152_1, .int .i64 0, .int .i64 0, .int .i64 0]) ?_ 2 _ rfl; (with_reducible repeat (first | refine zN ?_ _ | refine zD ?_ | refine zA ?_ _)); refine blk_put (cs := #[.string ((rd_T38 l1 x6_2).f0), .slice none 0 0, .int .i64 0, .int .i64 0, .int .i64 0]) ?_ 1 _ rfl; (with_reducible repeat (first | refine zN ?_ _ | refine zD ?_ | refine zA ?_ _)); refine blk_put (cs := #[.string (⟨#[]⟩ : ByteArray), .slice none 0 0, .int .i64 0, .int .i64 0, .int .i64 0]) ?_ 0 _ rfl; (with_reducible repeat (first | refine zN ?_ _ | refine zD ?_ | refine zA ?_ _)); exact BK153.out⟩, ⟨by repeat (first | (with_reducible first | exact HB.out | apply yA | apply yN | apply yD | refine yS ?_ GE153.out) | exact HB.out)⟩⟩
          ·replace c15 := Bool.eq_false_iff.mpr c15
           subst c15
           have H1 : (gangsawref50_ranged.j2 k2 l1 x6_2 true ((rd_T38 l1 x6_2).f0) ((rd_T38 l1 x6_2).f1) ((rd_T38 l1 x6_2).f2) ((rd_T38 l1 x6_2).f3) ((rd_T38 l1 x6_2).f4)) = some r := by rw [if_neg (show ¬ (false = true) by decide)] at H; exact H
           clear H
           have H := H1
           clear H1
           have H' := aK H
           clear H
           have hcz18_0 := zI BK153 0 rfl
           have hcz18_1 := zI BK153 1 rfl
           have hcz18_2 := zI BK153 2 rfl
           have hcz18_3 := zI BK153 3 rfl
           have hcz18_4 := zI BK153 4 rfl
           have hfz18_0 := zF BK153.out 0
           have hfz18_1 := zF BK153.out 1
           have hfz18_2 := zF BK153.out 2
           have hfz18_3 := zF BK153.out 3
           have hfz18_4 := zF BK153.out 4
           go_wp2_with (first | ((with_reducible refine gate_callee (f := 61) rfl ?_); refine goesL_ (some 34) rfl rfl Tryz.func61 (by kernel_rfl) rfl #[.int .i64 ((rd_T38 l1 x6_2).f2), .int .i64 0, .int .i64 1000000] rfl (by (try simp only [List.map_toArray, List.map_cons, List.map_nil]); first | done | rfl | (simp only [List.length_drop, List.length_take]; rfl)) ?_; (with_reducible refine (gangsawref50_in.calls ((rd_T38 l1 x6_2).f2) 0 1000000 true _ A12.out).mono ?_); rintro e w' ⟨rfl, ⟨nd, rfl⟩⟩; refine ⟨_, rfl, ?_⟩) | (go_at_call 61; (with_reducible refine (gangsawref50_in.calls ((rd_T38 l1 x6_2).f3) 0 1000000 false _ A14.out).mono ?_); rintro e w' ⟨rfl, ⟨nd, rfl⟩⟩))
           go_meet
           case rel => exact ⟨_, (true), (by first | rfl | (simp; done) | (simp [*]; done)), H', ⟨by have := HK1.out; have := HK2.out; first | omega | exact Nat.le_refl _⟩, ⟨by (with_reducible repeat (first | refine zN ?_ _ | refine zD ?_ | refine zA ?_ _)); refine blk_put (cs := #[.string ((rd_T38 l1 x6_2).f0), .slice A152_1 ((rd_T38 l1 x6_2).f1).length c152_1, .int .i64 ((rd_T38 l1 x6_2).f2), .int .i64 ((rd_T38 l1 x6_2).f3), .int .i64 0]) ?_ 4 _ rfl; (with_reducible repeat (first | refine zN ?_ _ | refine zD ?_ | refine zA ?_ _)); refine blk_put (cs := #[.string ((rd_T38 l1 x6_2).f0), .slice A152_1 ((rd_T38 l1 x6_2).f1).length c152_1, .int .i64 ((rd_T38 l1 x6_2).f2), .int .i64 0, .int .i64 0]) ?_ 3 _ rfl; (with_reducible repeat (first | refine zN ?_ _ | refine zD ?_ | refine zA ?_ _)); refine blk_put (cs := #[.string ((rd_T38 l1 x6_2).f0), .slice A152_1 ((rd_T38 l1 x6_2).f1).length c152_1, .int .i64 0, .int .i64 0, .int .i64 0]) ?_ 2 _ rfl; (with_reducible repeat (first | refine zN ?_ _ | refine zD ?_ | refine zA ?_ _)); refine blk_put (cs := #[.string ((rd_T38 l1 x6_2).f0), .slice none 0 0, .int .i64 0, .int .i64 0, .int .i64 0]) ?_ 1 _ rfl; (with_reducible repeat (first | refine zN ?_ _ | refine zD ?_ | refine zA ?_ _)); refine blk_put (cs := #[.string (⟨#[]⟩ : ByteArray), .slice none 0 0, .int .i64 0, .int .i64 0, .int .i64 0]) ?_ 0 _ rfl; (with_reducible repeat (first | refine zN ?_ _ | refine zD ?_ | refine zA ?_ _)); exact BK153.out⟩, ⟨by repeat (first | (with_reducible first | exact HB.out | apply yA | apply yN | apply yD | refine yS ?_ GE153.out) | exact HB.out)⟩⟩
         ·replace c13 := Bool.eq_false_iff.mpr c13
          subst c13
          have H1 : (gangsawref50_ranged.j2 k2 l1 x6_2 true ((rd_T38 l1 x6_2).f0) ((rd_T38 l1 x6_2).f1) ((rd_T38 l1 x6_2).f2) ((rd_T38 l1 x6_2).f3) ((rd_T38 l1 x6_2).f4)) = some r := by rw [if_neg (show ¬ (false = true) by decide)] at H; exact H
          clear H
          have H := H1
          clear H1
          have H' := aK H
          clear H
          have hcz19_0 := zI BK153 0 rfl
          have hcz19_1 := zI BK153 1 rfl
          have hcz19_2 := zI BK153 2 rfl
          have hcz19_3 := zI BK153 3 rfl
          have hcz19_4 := zI BK153 4 rfl
          have hfz19_0 := zF BK153.out 0
          have hfz19_1 := zF BK153.out 1
          have hfz19_2 := zF BK153.out 2
          have hfz19_3 := zF BK153.out 3
          have hfz19_4 := zF BK153.out 4
          go_wp2_with (first | ((with_reducible refine gate_callee (f := 61) rfl ?_); refine goesL_ (some 34) rfl rfl Tryz.func61 (by kernel_rfl) rfl #[.int .i64 ((rd_T38 l1 x6_2).f2), .int .i64 0, .int .i64 1000000] rfl (by (try simp only [List.map_toArray, List.map_cons, List.map_nil]); first | done | rfl | (simp only [List.length_drop, List.length_take]; rfl)) ?_; (with_reducible refine (gangsawref50_in.calls ((rd_T38 l1 x6_2).f2) 0 1000000 false _ A12.out).mono ?_); rintro e w' ⟨rfl, ⟨nd, rfl⟩⟩; refine ⟨_, rfl, ?_⟩))
          go_meet
          case rel => exact ⟨_, (true), (by first | rfl | (simp; done) | (simp [*]; done)), H', ⟨by have := HK1.out; have := HK2.out; first | omega | exact Nat.le_refl _⟩, ⟨by (with_reducible repeat (first | refine zN ?_ _ | refine zD ?_ | refine zA ?_ _)); refine blk_put (cs := #[.string ((rd_T38 l1 x6_2).f0), .slice A152_1 ((rd_T38 l1 x6_2).f1).length c152_1, .int .i64 ((rd_T38 l1 x6_2).f2), .int .i64 ((rd_T38 l1 x6_2).f3), .int .i64 0]) ?_ 4 _ rfl; (with_reducible repeat (first | refine zN ?_ _ | refine zD ?_ | refine zA ?_ _)); refine blk_put (cs := #[.string ((rd_T38 l1 x6_2).f0), .slice A152_1 ((rd_T38 l1 x6_2).f1).length c152_1, .int .i64 ((rd_T38 l1 x6_2).f2), .int .i64 0, .int .i64 0]) ?_ 3 _ rfl; (with_reducible repeat (first | refine zN ?_ _ | refine zD ?_ | refine zA ?_ _)); refine blk_put (cs := #[.string ((rd_T38 l1 x6_2).f0), .slice A152_1 ((rd_T38 l1 x6_2).f1).length c152_1, .int .i64 0, .int .i64 0, .int .i64 0]) ?_ 2 _ rfl; (with_reducible repeat (first | refine zN ?_ _ | refine zD ?_ | refine zA ?_ _)); refine blk_put (cs := #[.string ((rd_T38 l1 x6_2).f0), .slice none 0 0, .int .i64 0, .int .i64 0, .int .i64 0]) ?_ 1 _ rfl; (with_reducible repeat (first | refine zN ?_ _ | refine zD ?_ | refine zA ?_ _)); refine blk_put (cs := #[.string (⟨#[]⟩ : ByteArray), .slice none 0 0, .int .i64 0, .int .i64 0, .int .i64 0]) ?_ 0 _ rfl; (with_reducible repeat (first | refine zN ?_ _ | refine zD ?_ | refine zA ?_ _)); exact BK153.out⟩, ⟨by repeat (first | (with_reducible first | exact HB.out | apply yA | apply yN | apply yD | refine yS ?_ GE153.out) | exact HB.out)⟩⟩
        case rest =>
         clear HC9
         try clear c1
         try clear p1
         try clear q1
         try clear hx1
         try clear p2
         try clear c3
         try clear c3b0
         try clear c4
         try clear c4b0
         try clear c6
         try clear p6
         try clear c7
         try clear c7b0
         try clear c8
         try clear c8b0
         try clear c13
         try clear c15
         try clear p15
         try clear q15
         try clear hx15
         try clear hcz11_0
         try clear hcz11_1
         try clear hcz11_2
         try clear hcz11_3
         try clear hcz11_4
         try clear hcz17_0
         try clear hcz17_1
         try clear hcz17_2
         try clear hcz17_3
         try clear hcz17_4
         try clear hcz18_0
         try clear hcz18_1
         try clear hcz18_2
         try clear hcz18_3
         try clear hcz18_4
         try clear hcz19_0
         try clear hcz19_1
         try clear hcz19_2
         try clear hcz19_3
         try clear hcz19_4
         try clear hfz11_0
         try clear hfz11_1
         try clear hfz11_2
         try clear hfz11_3
         try clear hfz11_4
         try clear hfz17_0
         try clear hfz17_1
         try clear hfz17_2
         try clear hfz17_3
         try clear hfz17_4
         try clear hfz18_0
         try clear hfz18_1
         try clear hfz18_2
         try clear hfz18_3
         try clear hfz18_4
         try clear hfz19_0
         try clear hfz19_1
         try clear hfz19_2
         try clear hfz19_3
         try clear hfz19_4
         try clear hx150_0
         try clear hx150_1
         try clear hx150_2
         try clear hx152_0
         try clear hx152_1
         try clear hx152_2
         try clear hx152_3
         try clear hx152_4
         try clear p1
         try clear p150
         try clear p152
         try clear p2
         try clear p6
         try clear q1
         try clear q150
         try clear q152
         obtain ⟨kq, x47_8, rfl, HA, HJ8, BK153, HB⟩ := hcut
         cases kq with
         | zero => exact absurd HA.out (by simp [gangsawref50_ranged.j2])
         | succ kj8 =>
          have H := HA.out
          clear HA
          simp only [gangsawref50_ranged.j2] at H
          by_cases c20 : x47_8 = true
          ·subst c20
           have H1 : (some false) = some r := by rw [if_pos rfl] at H; exact H
           clear H
           have H := H1
           clear H1
           obtain rfl := Option.some.inj H
           simp only [Option.some.injEq, Prod.mk.injEq] at H
           obtain ⟨rfl⟩ := H
           go_wp2
           go_ret
           exact ⟨by first | rfl | (simp [errW_none, errW_some] <;> rfl) | (simp [*, errW_none, errW_some] <;> rfl), by repeat (first | (with_reducible first | exact HB.out | apply yA | apply yN | apply yD | refine yS ?_ GE153.out) | exact HB.out)⟩
          ·replace c20 := Bool.eq_false_iff.mpr c20
           subst c20
           have H1 : (gangsawref50_ranged.l2 kj8 l1 x6_2 0 ((rd_T38 l1 x6_2).f0) ((rd_T38 l1 x6_2).f1) ((rd_T38 l1 x6_2).f2) ((rd_T38 l1 x6_2).f3) ((rd_T38 l1 x6_2).f4)) = some r := by rw [if_neg (show ¬ (false = true) by decide)] at H; exact H
           clear H
           have H := H1
           clear H1
           have H' := aK H
           clear H
           go_wp2
           go_loopg [8] kj8 (fun kq v8 w' => ∃ (x8_4 : Int), v8 = .int .i64 x8_4 ∧ Aside0 (gangsawref50_ranged.l2 kq l1 x6_2 x8_4 ((rd_T38 l1 x6_2).f0) ((rd_T38 l1 x6_2).f1) ((rd_T38 l1 x6_2).f2) ((rd_T38 l1 x6_2).f3) ((rd_T38 l1 x6_2).f4) = some r) ∧ Aside0 (kq ≤ kj8) ∧ Aside0 (w'.heap[gb153]? = some (.cells #[.string ((rd_T38 l1 x6_2).f0), (.slice A152_1 ((rd_T38 l1 x6_2).f1).length c152_1), .int .i64 ((rd_T38 l1 x6_2).f2), .int .i64 ((rd_T38 l1 x6_2).f3), .int .i64 ((rd_T38 l1 x6_2).f4)] 38 (0, 0))) ∧ Aside0 (Below w.heap.size w w'))
           case atStart => exact ⟨(0), (by first | rfl | (simp; done) | (simp [*]; done)), H', ⟨Nat.le_refl _⟩, ⟨by (with_reducible repeat (first | refine zN ?_ _ | refine zD ?_ | refine zA ?_ _)); exact BK153.out⟩, ⟨by repeat (first | (with_reducible first | exact HB.out | apply yA | apply yN | apply yD | refine yS ?_ GE153.out) | exact HB.out)⟩⟩
           case round =>
            clear H'
            try clear c1
            try clear p1
            try clear q1
            try clear hx1
            try clear c2
            try clear p2
            try clear c3
            try clear c3b0
            try clear c4
            try clear c4b0
            try clear c6
            try clear p6
            try clear c7
            try clear c7b0
            try clear c8
            try clear c8b0
            try clear c13
            try clear c15
            try clear p15
            try clear q15
            try clear hx15
            try clear c20
            try clear hcz11_0
            try clear hcz11_1
            try clear hcz11_2
            try clear hcz11_3
            try clear hcz11_4
            try clear hcz17_0
            try clear hcz17_1
            try clear hcz17_2
            try clear hcz17_3
            try clear hcz17_4
            try clear hcz18_0
            try clear hcz18_1
            try clear hcz18_2
            try clear hcz18_3
            try clear hcz18_4
            try clear hcz19_0
            try clear hcz19_1
            try clear hcz19_2
            try clear hcz19_3
            try clear hcz19_4
            try clear hfz11_0
            try clear hfz11_1
            try clear hfz11_2
            try clear hfz11_3
            try clear hfz11_4
            try clear hfz17_0
            try clear hfz17_1
            try clear hfz17_2
            try clear hfz17_3
            try clear hfz17_4
            try clear hfz18_0
            try clear hfz18_1
            try clear hfz18_2
            try clear hfz18_3
            try clear hfz18_4
            try clear hfz19_0
            try clear hfz19_1
            try clear hfz19_2
            try clear hfz19_3
            try clear hfz19_4
            try clear hx150_0
            try clear hx150_1
            try clear hx150_2
            try clear hx152_0
            try clear hx152_1
            try clear hx152_2
            try clear hx152_3
            try clear hx152_4
            try clear p1
            try clear p15
            try clear p150
            try clear p152
            try clear p2
            try clear p6
            try clear q1
            try clear q15
            try clear q150
            try clear q152
            obtain ⟨x8_4, rfl, HA, HK4, BK153, HB⟩ := hrel
            cases gk with
            | zero => exact absurd HA.out (by simp [gangsawref50_ranged.l2])
            | succ k4 =>
             have H := HA.out
             clear HA
             simp only [gangsawref50_ranged.l2] at H
             by_cases c21 : x8_4 < (((rd_T38 l1 x6_2).f1).length : Int)
             ·rw [if_pos c21] at H
              have c21b0 : decide (x8_4 < (((rd_T38 l1 x6_2).f1).length : Int)) = true := decide_eq_true c21
              clear c21
              by_cases c22 : 0 ≤ x8_4
              ·rw [if_pos c22] at H
               have c22b0 : decide (0 ≤ x8_4) = true := decide_eq_true c22
               clear c22
               replace H := Option.bind_eq_some_iff.mp H
               obtain ⟨t158, A230, H⟩ := H
               replace H : (if t158 = true then ((gangsawref50_in.f ((rd_T40 ((rd_T38 l1 x6_2).f1) x8_4).f2) 0 1000000).bind fun t160 => (if t160 = true then (gangsawref50_ranged.l2 k4 l1 x6_2 (wrap64 (x8_4 + 1)) ((rd_T38 l1 x6_2).f0) ((rd_T38 l1 x6_2).f1) ((rd_T38 l1 x6_2).f2) ((rd_T38 l1 x6_2).f3) ((rd_T38 l1 x6_2).f4)) else (some false))) else (some false)) = some r := H
               have A23 := aK A230
               clear A230
               by_cases c24 : t158 = true
               ·subst c24
                have H1 : ((gangsawref50_in.f ((rd_T40 ((rd_T38 l1 x6_2).f1) x8_4).f2) 0 1000000).bind fun t160 => (if t160 = true then (gangsawref50_ranged.l2 k4 l1 x6_2 (wrap64 (x8_4 + 1)) ((rd_T38 l1 x6_2).f0) ((rd_T38 l1 x6_2).f1) ((rd_T38 l1 x6_2).f2) ((rd_T38 l1 x6_2).f3) ((rd_T38 l1 x6_2).f4)) else (some false))) = some r := by rw [if_pos rfl] at H; exact H
                clear H
                have H := H1
                clear H1
                replace H := Option.bind_eq_some_iff.mp H
                obtain ⟨t160, A250, H⟩ := H
                replace H : (if t160 = true then (gangsawref50_ranged.l2 k4 l1 x6_2 (wrap64 (x8_4 + 1)) ((rd_T38 l1 x6_2).f0) ((rd_T38 l1 x6_2).f1) ((rd_T38 l1 x6_2).f2) ((rd_T38 l1 x6_2).f3) ((rd_T38 l1 x6_2).f4)) else (some false)) = some r := H
                have A25 := aK A250
                clear A250
                by_cases c26 : t160 = true
                ·subst c26
                 have H1 : (gangsawref50_ranged.l2 k4 l1 x6_2 (wrap64 (x8_4 + 1)) ((rd_T38 l1 x6_2).f0) ((rd_T38 l1 x6_2).f1) ((rd_T38 l1 x6_2).f2) ((rd_T38 l1 x6_2).f3) ((rd_T38 l1 x6_2).f4)) = some r := by rw [if_pos rfl] at H; exact H
                 clear H
                 have H := H1
                 clear H1
                 have H' := aK H
                 clear H
                 have hcz27_0 := zI BK153 0 rfl
                 have hcz27_1 := zI BK153 1 rfl
                 have hcz27_2 := zI BK153 2 rfl
                 have hcz27_3 := zI BK153 3 rfl
                 have hcz27_4 := zI BK153 4 rfl
                 have hfz27_0 := zF BK153.out 0
                 have hfz27_1 := zF BK153.out 1
                 have hfz27_2 := zF BK153.out 2
                 have hfz27_3 := zF BK153.out 3
                 have hfz27_4 := zF BK153.out 4
                 have p157 : 0 ≤ (x8_4 : Int) := of_decide_eq_true (by first | (with_reducible assumption) | assumption)
                 have q157 : x8_4 < (((rd_T38 l1 x6_2).f1).length : Int) := of_decide_eq_true (by first | (with_reducible assumption) | assumption)
                 obtain ⟨ad157, e157, hx157_0, hx157_1, hx157_2⟩ := at_T40 HR152_1.out x8_4 p157 q157
                 cases e157
                 replace hx157_0 := (HB.out.cell (World.block_lt_of_cell? w _ hx157_0)).trans hx157_0
                 replace hx157_1 := (HB.out.cell (World.block_lt_of_cell? w _ hx157_1)).trans hx157_1
                 replace hx157_2 := (HB.out.cell (World.block_lt_of_cell? w _ hx157_2)).trans hx157_2
                 replace p157 := eq_true p157
                 replace q157 := eq_true q157
                 go_wp2_with (first | ((with_reducible refine gate_callee (f := 61) rfl ?_); refine goesL_ (some 61) rfl rfl Tryz.func61 (by kernel_rfl) rfl #[.int .i64 ((rd_T40 ((rd_T38 l1 x6_2).f1) x8_4).f1), .int .i64 1, .int .i64 1000000] rfl (by (try simp only [List.map_toArray, List.map_cons, List.map_nil]); first | done | rfl | (simp only [List.length_drop, List.length_take]; rfl)) ?_; (with_reducible refine (gangsawref50_in.calls ((rd_T40 ((rd_T38 l1 x6_2).f1) x8_4).f1) 1 1000000 true _ A23.out).mono ?_); rintro e w' ⟨rfl, ⟨nd, rfl⟩⟩; refine ⟨_, rfl, ?_⟩; have p159 : 0 ≤ (x8_4 : Int) := of_decide_eq_true (by first | (with_reducible assumption) | assumption); have q159 : x8_4 < (((rd_T38 l1 x6_2).f1).length : Int) := of_decide_eq_true (by first | (with_reducible assumption) | assumption); obtain ⟨ad159, e159, hx159_0, hx159_1, hx159_2⟩ := at_T40 HR152_1.out x8_4 p159 q159; obtain rfl : ad157 = ad159 := (by injection e159); replace hx159_0 := (HB.out.cell (World.block_lt_of_cell? w _ hx159_0)).trans hx159_0; replace hx159_1 := (HB.out.cell (World.block_lt_of_cell? w _ hx159_1)).trans hx159_1; replace hx159_2 := (HB.out.cell (World.block_lt_of_cell? w _ hx159_2)).trans hx159_2; replace p159 := eq_true p159; replace q159 := eq_true q159) | (go_at_call 61; (with_reducible refine (gangsawref50_in.calls ((rd_T40 ((rd_T38 l1 x6_2).f1) x8_4).f2) 0 1000000 true _ A25.out).mono ?_); rintro e w' ⟨rfl, ⟨nd, rfl⟩⟩))
                 go_roundg k4
                 case measure => have := HK1.out; have := HK2.out; have := HJ8.out; have := HK4.out; omega
                 case rel => exact ⟨(wrap64 (x8_4 + 1)), (by first | rfl | (simp; done) | (simp [*]; done)), H', ⟨by have := HK1.out; have := HK2.out; have := HJ8.out; have := HK4.out; omega⟩, ⟨by (with_reducible repeat (first | refine zN ?_ _ | refine zD ?_ | refine zA ?_ _)); exact BK153.out⟩, ⟨by repeat (first | (with_reducible first | exact HB.out | apply yA | apply yN | apply yD | refine yS ?_ GE153.out) | exact HB.out)⟩⟩
                ·replace c26 := Bool.eq_false_iff.mpr c26
                 subst c26
                 have H1 : (some false) = some r := by rw [if_neg (show ¬ (false = true) by decide)] at H; exact H
                 clear H
                 have H := H1
                 clear H1
                 obtain rfl := Option.some.inj H
                 simp only [Option.some.injEq, Prod.mk.injEq] at H
                 obtain ⟨rfl⟩ := H
                 have hcz28_0 := zI BK153 0 rfl
                 have hcz28_1 := zI BK153 1 rfl
                 have hcz28_2 := zI BK153 2 rfl
                 have hcz28_3 := zI BK153 3 rfl
                 have hcz28_4 := zI BK153 4 rfl
                 have hfz28_0 := zF BK153.out 0
                 have hfz28_1 := zF BK153.out 1
                 have hfz28_2 := zF BK153.out 2
                 have hfz28_3 := zF BK153.out 3
                 have hfz28_4 := zF BK153.out 4
                 have p157 : 0 ≤ (x8_4 : Int) := of_decide_eq_true (by first | (with_reducible assumption) | assumption)
                 have q157 : x8_4 < (((rd_T38 l1 x6_2).f1).length : Int) := of_decide_eq_true (by first | (with_reducible assumption) | assumption)
                 obtain ⟨ad157, e157, hx157_0, hx157_1, hx157_2⟩ := at_T40 HR152_1.out x8_4 p157 q157
                 cases e157
                 replace hx157_0 := (HB.out.cell (World.block_lt_of_cell? w _ hx157_0)).trans hx157_0
                 replace hx157_1 := (HB.out.cell (World.block_lt_of_cell? w _ hx157_1)).trans hx157_1
                 replace hx157_2 := (HB.out.cell (World.block_lt_of_cell? w _ hx157_2)).trans hx157_2
                 replace p157 := eq_true p157
                 replace q157 := eq_true q157
                 go_wp2_with (first | ((with_reducible refine gate_callee (f := 61) rfl ?_); refine goesL_ (some 61) rfl rfl Tryz.func61 (by kernel_rfl) rfl #[.int .i64 ((rd_T40 ((rd_T38 l1 x6_2).f1) x8_4).f1), .int .i64 1, .int .i64 1000000] rfl (by (try simp only [List.map_toArray, List.map_cons, List.map_nil]); first | done | rfl | (simp only [List.length_drop, List.length_take]; rfl)) ?_; (with_reducible refine (gangsawref50_in.calls ((rd_T40 ((rd_T38 l1 x6_2).f1) x8_4).f1) 1 1000000 true _ A23.out).mono ?_); rintro e w' ⟨rfl, ⟨nd, rfl⟩⟩; refine ⟨_, rfl, ?_⟩; have p159 : 0 ≤ (x8_4 : Int) := of_decide_eq_true (by first | (with_reducible assumption) | assumption); have q159 : x8_4 < (((rd_T38 l1 x6_2).f1).length : Int) := of_decide_eq_true (by first | (with_reducible assumption) | assumption); obtain ⟨ad159, e159, hx159_0, hx159_1, hx159_2⟩ := at_T40 HR152_1.out x8_4 p159 q159; obtain rfl : ad157 = ad159 := (by injection e159); replace hx159_0 := (HB.out.cell (World.block_lt_of_cell? w _ hx159_0)).trans hx159_0; replace hx159_1 := (HB.out.cell (World.block_lt_of_cell? w _ hx159_1)).trans hx159_1; replace hx159_2 := (HB.out.cell (World.block_lt_of_cell? w _ hx159_2)).trans hx159_2; replace p159 := eq_true p159; replace q159 := eq_true q159) | (go_at_call 61; (with_reducible refine (gangsawref50_in.calls ((rd_T40 ((rd_T38 l1 x6_2).f1) x8_4).f2) 0 1000000 false _ A25.out).mono ?_); rintro e w' ⟨rfl, ⟨nd, rfl⟩⟩))
                 go_ret
                 exact ⟨by first | rfl | (simp [errW_none, errW_some] <;> rfl) | (simp [*, errW_none, errW_some] <;> rfl), by repeat (first | (with_reducible first | exact HB.out | apply yA | apply yN | apply yD | refine yS ?_ GE153.out) | exact HB.out)⟩
               ·replace c24 := Bool.eq_false_iff.mpr c24
                subst c24
                have H1 : (some false) = some r := by rw [if_neg (show ¬ (false = true) by decide)] at H; exact H
                clear H
                have H := H1
                clear H1
                obtain rfl := Option.some.inj H
                simp only [Option.some.injEq, Prod.mk.injEq] at H
                obtain ⟨rfl⟩ := H
                have hcz29_0 := zI BK153 0 rfl
                have hcz29_1 := zI BK153 1 rfl
                have hcz29_2 := zI BK153 2 rfl
                have hcz29_3 := zI BK153 3 rfl
                have hcz29_4 := zI BK153 4 rfl
                have hfz29_0 := zF BK153.out 0
                have hfz29_1 := zF BK153.out 1
                have hfz29_2 := zF BK153.out 2
                have hfz29_3 := zF BK153.out 3
                have hfz29_4 := zF BK153.out 4
                have p157 : 0 ≤ (x8_4 : Int) := of_decide_eq_true (by first | (with_reducible assumption) | assumption)
                have q157 : x8_4 < (((rd_T38 l1 x6_2).f1).length : Int) := of_decide_eq_true (by first | (with_reducible assumption) | assumption)
                obtain ⟨ad157, e157, hx157_0, hx157_1, hx157_2⟩ := at_T40 HR152_1.out x8_4 p157 q157
                cases e157
                replace hx157_0 := (HB.out.cell (World.block_lt_of_cell? w _ hx157_0)).trans hx157_0
                replace hx157_1 := (HB.out.cell (World.block_lt_of_cell? w _ hx157_1)).trans hx157_1
                replace hx157_2 := (HB.out.cell (World.block_lt_of_cell? w _ hx157_2)).trans hx157_2
                replace p157 := eq_true p157
                replace q157 := eq_true q157
                go_wp2_with (first | ((with_reducible refine gate_callee (f := 61) rfl ?_); refine goesL_ (some 61) rfl rfl Tryz.func61 (by kernel_rfl) rfl #[.int .i64 ((rd_T40 ((rd_T38 l1 x6_2).f1) x8_4).f1), .int .i64 1, .int .i64 1000000] rfl (by (try simp only [List.map_toArray, List.map_cons, List.map_nil]); first | done | rfl | (simp only [List.length_drop, List.length_take]; rfl)) ?_; (with_reducible refine (gangsawref50_in.calls ((rd_T40 ((rd_T38 l1 x6_2).f1) x8_4).f1) 1 1000000 false _ A23.out).mono ?_); rintro e w' ⟨rfl, ⟨nd, rfl⟩⟩; refine ⟨_, rfl, ?_⟩))
                go_ret
                exact ⟨by first | rfl | (simp [errW_none, errW_some] <;> rfl) | (simp [*, errW_none, errW_some] <;> rfl), by repeat (first | (with_reducible first | exact HB.out | apply yA | apply yN | apply yD | refine yS ?_ GE153.out) | exact HB.out)⟩
              ·rw [if_neg c22] at H
               exact absurd H (by simp)
             ·rw [if_neg c21] at H
              have c21b0 : decide (x8_4 < (((rd_T38 l1 x6_2).f1).length : Int)) = false := decide_eq_false c21
              clear c21
              have H' := aK H
              clear H
              have hcz30_0 := zI BK153 0 rfl
              have hcz30_1 := zI BK153 1 rfl
              have hcz30_2 := zI BK153 2 rfl
              have hcz30_3 := zI BK153 3 rfl
              have hcz30_4 := zI BK153 4 rfl
              have hfz30_0 := zF BK153.out 0
              have hfz30_1 := zF BK153.out 1
              have hfz30_2 := zF BK153.out 2
              have hfz30_3 := zF BK153.out 3
              have hfz30_4 := zF BK153.out 4
              go_wp2
              go_roundg k4
              case measure => have := HK1.out; have := HK2.out; have := HJ8.out; have := HK4.out; omega
              case rel => exact ⟨(wrap64 (x6_2 + 1)), (by first | rfl | (simp; done) | (simp [*]; done)), H', ⟨by have := HK1.out; have := HK2.out; have := HJ8.out; have := HK4.out; omega⟩, ⟨by repeat (first | (with_reducible first | exact HB.out | apply yA | apply yN | apply yD | refine yS ?_ GE153.out) | exact HB.out)⟩⟩
       ·rw [if_neg c8] at H
        exact absurd H (by simp)
      ·rw [if_neg c7] at H
       have c7b0 : decide (x6_2 < (l1.length : Int)) = false := decide_eq_false c7
       clear c7
       obtain rfl := Option.some.inj H
       simp only [Option.some.injEq, Prod.mk.injEq] at H
       obtain ⟨rfl⟩ := H
       go_wp2
       go_ret
       exact ⟨by first | rfl | (simp [errW_none, errW_some] <;> rfl) | (simp [*, errW_none, errW_some] <;> rfl), by repeat (first | (with_reducible first | exact HB.out | apply yA | apply yN | apply yD) | exact HB.out)⟩

end Go.Proofs.YtkdbcaegeeeiaaaGreat.P
