/- What functions of the program return: each contract says so of one function, for every input at which its pure function yields. -/
import Derived.Test.YtkdbcaegeeeiaaaGreatPx0
import Derived.Test.YtkdbcaegeeeiaaaGreatPx8
namespace Go.Proofs.YtkdbcaegeeeiaaaGreat.P
open Go.RowKit Go.Proofs.YtkdbcaegeeeiaaaGreatW.PrintWords Go.Proofs.YtkdbcaegeeeiaaaGreatW.PrintLast Go.Proofs.YtkdbcaegeeeiaaaGreatW.PrintMore
attribute [local go_sem] max2_int min2_int max_two min_two max_three min_three max_four min_four   -- for this text's walks alone
set_option linter.unusedVariables false
set_option linter.unusedSimpArgs false

def gangsawref52_Alone.l0 : Nat → List (S42) → Int → ByteArray → List (S40) → Int → Int → Int → Option (Int)
 | 0, _, _, _, _, _, _, _ => none
 | k + 1, x3, x4, x176000, x176001, x176002, x176003, x176004 => if x4 < (x176001.length : Int) then (if x4 < 20 then (if 1 + (Utf8.encode (wrap32 (wrap64 (97 + x4)))).size ≤ 9223372036854775807 then (if 0 ≤ x4 then (if x3.length < 3518437208883 then (gangsawref52_Alone.l0 k (x3 ++ [(⟨(⟨#[109]⟩ : ByteArray) ++ (Utf8.encode (wrap32 (wrap64 (97 + x4)))), (rd_T40 x176001 x4).f0, 0⟩ : S42)]) (wrap64 (x4 + 1)) x176000 x176001 x176002 x176003 x176004) else (none)) else (none)) else (none)) else ((gangsawref50_Check.f k x3 (([(⟨x176000, x176001, x176002, x176003, x176004⟩ : S38)] : List (S38)))).bind fun t186 => (some t186))) else ((gangsawref50_Check.f k x3 (([(⟨x176000, x176001, x176002, x176003, x176004⟩ : S38)] : List (S38)))).bind fun t190 => (some t190))
def gangsawref52_Alone.f (k : Nat) (a0_0 : ByteArray) (l0_1 : List (S40)) (a0_2 : Int) (a0_3 : Int) (a0_4 : Int) : Option (Int) := gangsawref52_Alone.l0 k (([] : List (S42))) 0 a0_0 l0_1 a0_2 a0_3 a0_4
theorem gangsawref52_Alone.mono_l : ∀ k, (∀ y0 y1 y2 y3 y4 y5 y6, LeO (gangsawref52_Alone.l0 k y0 y1 y2 y3 y4 y5 y6) (gangsawref52_Alone.l0 (k + 1) y0 y1 y2 y3 y4 y5 y6))
 | 0 => fun _ _ _ _ _ _ _ r h => by simp [gangsawref52_Alone.l0] at h
 | k + 1 => by
  have ih0 := gangsawref52_Alone.mono_l k
  ·intro y0 y1 y2 y3 y4 y5 y6
   unfold gangsawref52_Alone.l0
   repeat' first
   | (with_reducible exact ih0 _ _ _ _ _ _ _)
   | (with_reducible exact gangsawref50_Check.mono _ _ _)
   | (with_reducible exact LeO.refl _)
   | (with_reducible exact LeO.none _)
   | (with_reducible refine LeO.ite ?_ ?_)
   | (with_reducible refine LeO.bind ?_ (fun _ => ?_))
   | exact ih0 _ _ _ _ _ _ _
   | exact gangsawref50_Check.mono _ _ _
   | exact LeO.none _
   | refine LeO.ite ?_ ?_
   | refine LeO.bind ?_ (fun _ => ?_)
theorem gangsawref52_Alone.mono : ∀ a0 a1 a2 a3 a4 k, LeO (gangsawref52_Alone.f k a0 a1 a2 a3 a4) (gangsawref52_Alone.f (k + 1) a0 a1 a2 a3 a4) := by
 intro a0 a1 a2 a3 a4 k
 have ih0 := gangsawref52_Alone.mono_l k
 unfold gangsawref52_Alone.f
 repeat' first
   | (with_reducible exact ih0 _ _ _ _ _ _ _)
   | (with_reducible exact gangsawref50_Check.mono _ _ _)
   | (with_reducible exact LeO.refl _)
   | (with_reducible exact LeO.none _)
   | (with_reducible refine LeO.ite ?_ ?_)
   | (with_reducible refine LeO.bind ?_ (fun _ => ?_))
   | exact ih0 _ _ _ _ _ _ _
   | exact gangsawref50_Check.mono _ _ _
   | exact LeO.none _
   | refine LeO.ite ?_ ?_
   | refine LeO.bind ?_ (fun _ => ?_)
set_option maxHeartbeats 8000000 in
set_option maxRecDepth 100000 in
theorem gangsawref52_Alone.calls (k : Nat) (a0_0 : ByteArray) (P0_1_ : Nat → Prop) (A0_1 : Option Addr) (c0_1 : Nat) (l0_1 : List (S40)) (a0_2 : Int) (a0_3 : Int) (a0_4 : Int) (r : Int) (w : World) (hs0_1 : Kd.V k40 40 w w.heap.size (fun k_ => P0_1_ k_) (.slice A0_1 l0_1.length c0_1) l0_1) (h : gangsawref52_Alone.f k a0_0 l0_1 a0_2 a0_3 a0_4 = some r) :
  Calls Tryz.prog 45 #[.agg #[.string a0_0, .slice A0_1 l0_1.length c0_1, .int .i64 a0_2, .int .i64 a0_3, .int .i64 a0_4]] w fun e w' => e = .returned (.int .i64 r) ∧ Below w.heap.size w w' := by
 have hu38 := Tryz.underlying38
 have hu42 := Tryz.underlying42
 have HO0_1 := aK (show Kd.V k40 40 w w.heap.size (fun k_ => (P0_1_ k_ ∨ w.heap.size ≤ k_)) (.slice A0_1 l0_1.length c0_1) l0_1 from Kd.V_mono hs0_1 (fun k_ hk => .inl hk))
 have HB := aK (Below.refl w.heap.size w)
 have H : (gangsawref52_Alone.l0 k (([] : List (S42))) 0 a0_0 l0_1 a0_2 a0_3 a0_4) = some r := h
 clear h
 obtain ⟨y176, hy176⟩ : ∃ y_ : List (S42), y_ = (([] : List (S42))) := ⟨_, rfl⟩
 replace H : (gangsawref52_Alone.l0 k y176 0 a0_0 l0_1 a0_2 a0_3 a0_4) = some r := by first | (rw [hy176]; with_reducible exact H) | (have H2_ := (Option.bind_some _ _).symm.trans H; rw [hy176]; with_reducible exact H2_) | (have H2_ := (Option.bind_some _ _).symm.trans H; with_reducible exact H2_) | with_reducible exact H | (rw [hy176]; exact H) | exact H
 have Ny176 := aK hy176
 clear hy176
 have H' := aK H
 clear H
 go_enter Tryz.func45, Tryz.ntmps45
 go_wp2_with (first | ((with_reducible refine gate_dst (N := 1) rfl ?_); refine box_event ?hg (N := 1) ?hd (cs := #[.string a0_0, .slice A0_1 l0_1.length c0_1, .int .i64 a0_2, .int .i64 a0_3, .int .i64 a0_4]) (t := 38) ?hr ?_; (case hd => rfl); (case hg => rfl); (case hr => first | (go_simp; done) | (go_simp; rfl)); intro gb175 hg w2 hbox hb; have n0_ := aK (Kd.V_below (Kd.V_elderB (by (with_reducible repeat (first | apply Kd.V_alloc | apply Kd.V_drewN | apply Kd.V_drew)); exact HO0_1.out) gb175 (Nat.le_of_eq hg.symm)) hb); have ⟨n1_, n3_⟩ := zV (w := w) hb hg (by repeat (first | (with_reducible first | exact HB.out | apply yA | apply yN | apply yD) | exact HB.out)); have n2_ := aK (hbox); have n4_ := n3_; clear HO0_1; clear HB; have HO0_1 := n0_; have HB := n1_; have BK175 := n2_; have GW175 := n3_; have GE175 := n4_; clear n0_ n1_ n2_ n3_ n4_; clear hb hbox hg) | ((with_reducible refine gate_dst (N := 5) rfl ?_); refine Kd.R_lit k42 _ 42 ?hg (N := 5) ?hd (xs := ([] : List (S42))) (inner := []) (ok := fun _ => True) (okp := fun _ => True) ?hr ?hp (fun _ hk => hk) trivial (Below.refl _ _) (Nat.le_refl _) (by simp) ?_; (case hd => rfl); (case hg => rfl); (case hr => first | (go_simp; done) | (go_simp; rfl)); (case hp => exact (Reps.none _ _)); intro v177 w3 ho4 hb hg_ hnew_; clear hg_ hnew_; (first | rw [← Ny176.out] at ho4 | (simp only [Int.reduceToNat] at ho4; rw [← Ny176.out] at ho4)); have n0_ := aK (Kd.V_elder' (by (with_reducible repeat (first | apply Kd.V_alloc | apply Kd.V_drewN | apply Kd.V_drew)); exact HO0_1.out) (Kd.R_base ho4) hb); have n1_ := aK (Kd.R_lower (Kd.R_newM (M := fun k_ => (w.heap.size ≤ k_)) ho4 (yZ (by repeat (first | (with_reducible first | exact HB.out | apply yA | apply yN | apply yD | refine yS ?_ GE175.out) | exact HB.out))) (fun k_ h_ => h_)) (yZ (by repeat (first | (with_reducible first | exact HB.out | apply yA | apply yN | apply yD | refine yS ?_ GE175.out) | exact HB.out)))); have n2_ := zG BK175 hb (fun h => by (with_reducible repeat (first | refine zN ?_ _ | refine zD ?_ | refine zA ?_ _)); exact h); have n3_ := aK (yT (by repeat (first | (with_reducible first | exact HB.out | apply yA | apply yN | apply yD | refine yS ?_ GE175.out) | exact HB.out)) hb); clear HO0_1; clear BK175; clear HB; have HO0_1 := n0_; have HO178 := n1_; have BK175 := n2_; have HB := n3_; clear n0_ n1_ n2_ n3_; clear hb ho4))
 go_loopg [3, 4] k (fun kq v3 v4 w' => ∃ (x3_1 : List (S42)) (x4_1 : Int), v4 = .int .i64 x4_1 ∧ Aside0 (gangsawref52_Alone.l0 kq x3_1 x4_1 a0_0 l0_1 a0_2 a0_3 a0_4 = some r) ∧ Aside0 (kq ≤ k) ∧ Aside0 (Kd.R k42 42 w' w.heap.size (fun k_ => (w.heap.size ≤ k_)) v3 x3_1) ∧ Aside0 (Kd.V k40 40 w' w.heap.size (fun k_ => (P0_1_ k_ ∨ w.heap.size ≤ k_) ∧ some k_ ≠ (v3 : Value).ownBlock ∧ k_ ≠ gb175) (.slice A0_1 l0_1.length c0_1) l0_1) ∧ Aside0 (w'.heap[gb175]? = some (.cells #[.string a0_0, (.slice A0_1 l0_1.length c0_1), .int .i64 a0_2, .int .i64 a0_3, .int .i64 a0_4] 38 (0, 0))) ∧ Aside0 (Below w.heap.size w w'))
 case atStart => exact ⟨(y176), (0), (by first | rfl | (simp; done) | (simp [*]; done)), H', ⟨Nat.le_refl _⟩, ⟨by (with_reducible repeat (first | apply Kd.R_alloc | apply Kd.R_drewN | apply Kd.R_drew)); exact Kd.R_mono HO178.out (fun _ hk => hk.1)⟩, ⟨by (with_reducible repeat (first | apply Kd.V_alloc | apply Kd.V_drewN | apply Kd.V_drew)); exact Kd.V_mono HO0_1.out (fun _ hk => ⟨hk.1.1, ⟨hk.2, hk.1.2⟩⟩)⟩, ⟨by (with_reducible repeat (first | refine zN ?_ _ | refine zD ?_ | refine zA ?_ _)); exact BK175.out⟩, ⟨by repeat (first | (with_reducible first | exact HB.out | apply yA | apply yN | apply yD | refine yS ?_ GE175.out) | exact HB.out)⟩⟩
 case round =>
  clear H'
  try clear p2
  try clear c4
  obtain ⟨x3_1, x4_1, rfl, HA, HK1, HO_3, HO_176001, BK175, HB⟩ := hrel
  cases gk with
  | zero => exact absurd HA.out (by simp [gangsawref52_Alone.l0])
  | succ k1 =>
   have H := HA.out
   clear HA
   simp only [gangsawref52_Alone.l0] at H
   by_cases c5 : x4_1 < (l0_1.length : Int)
   ·rw [if_pos c5] at H
    have c5b0 : decide (x4_1 < (l0_1.length : Int)) = true := decide_eq_true c5
    clear c5
    by_cases c6 : x4_1 < 20
    ·rw [if_pos c6] at H
     have c6b0 : decide (x4_1 < 20) = true := decide_eq_true c6
     clear c6
     by_cases c7 : 1 + (Utf8.encode (wrap32 (wrap64 (97 + x4_1)))).size ≤ 9223372036854775807
     ·rw [if_pos c7] at H
      have c7b0 := eq_true c7
      have c7b1 : decide (1 + (Utf8.encode (wrap32 (wrap64 (97 + x4_1)))).size ≤ 9223372036854775807) = true := decide_eq_true c7
      try have c7b2 : (9223372036854775807 < 1 + (Utf8.encode (wrap32 (wrap64 (97 + x4_1)))).size) = False := eq_false (Nat.not_lt.2 c7)
      try have c7b3 : (9223372036854775807 < 1 + ((Utf8.encode (wrap32 (wrap64 (97 + x4_1)))).size)) = False := eq_false (by have h_ := c7; (repeat rw [ByteArray.size_append] at h_); exact Nat.not_lt.2 h_)
      by_cases c8 : 0 ≤ x4_1
      ·rw [if_pos c8] at H
       have c8b0 : decide (0 ≤ x4_1) = true := decide_eq_true c8
       clear c8
       by_cases c9 : x3_1.length < 3518437208883
       ·rw [if_pos c9] at H
        have LMc9 := aK c9
        clear c9
        obtain ⟨y180, hy180⟩ : ∃ y_ : List (S42), y_ = (x3_1 ++ [(⟨(⟨#[109]⟩ : ByteArray) ++ (Utf8.encode (wrap32 (wrap64 (97 + x4_1)))), (rd_T40 l0_1 x4_1).f0, 0⟩ : S42)]) := ⟨_, rfl⟩
        replace H : (gangsawref52_Alone.l0 k1 y180 (wrap64 (x4_1 + 1)) a0_0 l0_1 a0_2 a0_3 a0_4) = some r := by first | (rw [hy180]; with_reducible exact H) | (have H2_ := (Option.bind_some _ _).symm.trans H; rw [hy180]; with_reducible exact H2_) | (have H2_ := (Option.bind_some _ _).symm.trans H; with_reducible exact H2_) | with_reducible exact H | (rw [hy180]; exact H) | exact H
        have Ny180 := aK hy180
        clear hy180
        have H' := aK H
        clear H
        have hcz10_0 := zI BK175 0 rfl
        have hcz10_1 := zI BK175 1 rfl
        have hcz10_2 := zI BK175 2 rfl
        have hcz10_3 := zI BK175 3 rfl
        have hcz10_4 := zI BK175 4 rfl
        have hfz10_0 := zF BK175.out 0
        have hfz10_1 := zF BK175.out 1
        have hfz10_2 := zF BK175.out 2
        have hfz10_3 := zF BK175.out 3
        have hfz10_4 := zF BK175.out 4
        have p179 : 0 ≤ (x4_1 : Int) := of_decide_eq_true (by first | (with_reducible assumption) | assumption)
        have q179 : x4_1 < (l0_1.length : Int) := of_decide_eq_true (by first | (with_reducible assumption) | assumption)
        obtain ⟨ad179, e179, hx179_0, hx179_1, hx179_2⟩ := at_T40 (Kd.V_reads' HO_176001.out).2.2 x4_1 p179 q179
        cases e179
        replace p179 := eq_true p179
        replace q179 := eq_true q179
        go_wp2_with (first | ((with_reducible refine gate_builtin (b := .append) (xs := #[.tmp 17, .tmp 30]) rfl ?_); at_builtin; refine Kd.R_append k42 (w0 := w) w.heap.size rfl (.tmp 17) (.tmp 30) 22 42 (.agg #[(.string ⟨#[]⟩), (.string ⟨#[]⟩), (.int .i64 0)]) 40 rfl Tryz.underlying22 info42 rfl (by decide) (by omega) u3 x3_1 (⟨(⟨#[109]⟩ : ByteArray) ++ (Utf8.encode (wrap32 (wrap64 (97 + x4_1)))), (rd_T40 l0_1 x4_1).f0, 0⟩ : S42) [.string ((⟨#[109]⟩ : ByteArray) ++ (Utf8.encode (wrap32 (wrap64 (97 + x4_1))))), .string ((rd_T40 l0_1 x4_1).f0), .int .i64 0] (fun k_ => (w.heap.size ≤ k_)) (fun _ => False) rfl rfl ?aP (fun _ hk => hk.elim) ?aF ?aO ?aB ?aS ?aL ?_; (case aP => exact k42_mkM _ _ _ (⟨(⟨#[109]⟩ : ByteArray) ++ (Utf8.encode (wrap32 (wrap64 (97 + x4_1)))), (rd_T40 l0_1 x4_1).f0, 0⟩ : S42)); (case aB => exact (by repeat (first | (with_reducible first | exact HB.out | apply yA | apply yN | apply yD | refine yS ?_ GE175.out) | exact HB.out))); (case aF => exact (fun k_ hk => (Nat.le_trans (yZ (by repeat (first | (with_reducible first | exact HB.out | apply yA | apply yN | apply yD | refine yS ?_ GE175.out) | exact HB.out))) hk))); (case aO => exact (by (with_reducible repeat (first | apply Kd.R_alloc | apply Kd.R_drewN | apply Kd.R_drew)); exact HO_3.out)); (case aS => exact (yZ (by repeat (first | (with_reducible first | exact HB.out | apply yA | apply yN | apply yD | refine yS ?_ GE175.out) | exact HB.out)))); (case aL => have := LMc9.out; omega); intro v181 w11 ho hb hg hat; rw [← Ny180.out] at ho; have n0_ := aK (Kd.V_afterv (ok := (fun k_ => (P0_1_ k_ ∨ w.heap.size ≤ k_) ∧ k_ ≠ gb175)) (by (with_reducible repeat (first | apply Kd.V_alloc | apply Kd.V_drewN | apply Kd.V_drew)); exact Kd.V_mono HO_176001.out (fun _ hk => ⟨⟨hk.1, hk.2.2⟩, hk.2.1⟩)) hg hat); have n1_ := aK (blk_grown (g := gb175) (o := .cells #[.string a0_0, .slice (some ad179) l0_1.length c0_1, .int .i64 a0_2, .int .i64 a0_3, .int .i64 a0_4] 38 (0, 0)) (by (with_reducible repeat (first | refine zN ?_ _ | refine zD ?_ | refine zA ?_ _)); exact BK175.out) hg (Kd.R_ne HO_3.out BK175.out (by decide))); have n2_ := aK (hb); have n3_ := aK (ho); clear HO_176001; clear BK175; clear HB; clear HO_3; have HO_176001 := n0_; have BK175 := n1_; have HB := n2_; have HO182 := n3_; clear n0_ n1_ n2_ n3_; clear ho hb hg hat))
        go_roundg k1
        case measure => have := HK1.out; omega
        case rel => exact ⟨(y180), (wrap64 (x4_1 + 1)), (by first | rfl | (simp; done) | (simp [*]; done)), H', ⟨by have := HK1.out; omega⟩, ⟨by (with_reducible repeat (first | apply Kd.R_alloc | apply Kd.R_drewN | apply Kd.R_drew)); exact HO182.out⟩, ⟨by (with_reducible repeat (first | apply Kd.V_alloc | apply Kd.V_drewN | apply Kd.V_drew)); exact Kd.V_mono HO_176001.out (fun _ hk => ⟨hk.1.1, ⟨hk.2, hk.1.2⟩⟩)⟩, ⟨by (with_reducible repeat (first | refine zN ?_ _ | refine zD ?_ | refine zA ?_ _)); exact BK175.out⟩, ⟨by repeat (first | (with_reducible first | exact HB.out | apply yA | apply yN | apply yD | refine yS ?_ GE175.out) | exact HB.out)⟩⟩
       ·rw [if_neg c9] at H
        exact absurd H (by simp)
      ·rw [if_neg c8] at H
       exact absurd H (by simp)
     ·rw [if_neg c7] at H
      exact absurd H (by simp)
    ·rw [if_neg c6] at H
     have c6b0 : decide (x4_1 < 20) = false := decide_eq_false c6
     clear c6
     obtain ⟨y183, hy183⟩ : ∃ y_ : List (S38), y_ = (([(⟨a0_0, l0_1, a0_2, a0_3, a0_4⟩ : S38)] : List (S38))) := ⟨_, rfl⟩
     replace H : ((gangsawref50_Check.f k1 x3_1 y183).bind fun t186 => (some t186)) = some r := by first | (rw [hy183]; with_reducible exact H) | (have H2_ := (Option.bind_some _ _).symm.trans H; rw [hy183]; with_reducible exact H2_) | (have H2_ := (Option.bind_some _ _).symm.trans H; with_reducible exact H2_) | with_reducible exact H | (rw [hy183]; exact H) | exact H
     have Ny183 := aK hy183
     clear hy183
     replace H := Option.bind_eq_some_iff.mp H
     obtain ⟨t186, A120, H⟩ := H
     replace H : (some t186) = some r := H
     have A12 := aK A120
     clear A120
     obtain rfl := Option.some.inj H
     simp only [Option.some.injEq, Prod.mk.injEq] at H
     obtain ⟨rfl⟩ := H
     have hcz13_0 := zI BK175 0 rfl
     have hcz13_1 := zI BK175 1 rfl
     have hcz13_2 := zI BK175 2 rfl
     have hcz13_3 := zI BK175 3 rfl
     have hcz13_4 := zI BK175 4 rfl
     have hfz13_0 := zF BK175.out 0
     have hfz13_1 := zF BK175.out 1
     have hfz13_2 := zF BK175.out 2
     have hfz13_3 := zF BK175.out 3
     have hfz13_4 := zF BK175.out 4
     go_wp2_with (first | ((with_reducible refine gate_dst (N := 34) rfl ?_); refine Kd.N_lit k38 _ 38 ?hg (N' := 34) ?hd (xs := ([(⟨a0_0, l0_1, a0_2, a0_3, a0_4⟩ : S38)] : List (S38))) (inner := [.string a0_0, .slice A0_1 l0_1.length c0_1, .int .i64 a0_2, .int .i64 a0_3, .int .i64 a0_4]) (ok := (fun k_ => (P0_1_ k_ ∨ w.heap.size ≤ k_) ∧ some k_ ≠ (u3 : Value).ownBlock ∧ k_ ≠ gb175)) (okp := (fun k_ => (P0_1_ k_ ∨ w.heap.size ≤ k_) ∧ some k_ ≠ (u3 : Value).ownBlock ∧ k_ ≠ gb175)) ?hr ?hp (fun _ hk => hk) ((show ∀ k_, wr.heap.size ≤ k_ → (fun k_ => (P0_1_ k_ ∨ w.heap.size ≤ k_) ∧ some k_ ≠ (u3 : Value).ownBlock ∧ k_ ≠ gb175) k_ from fun k_ hk => ⟨(.inr (Nat.le_trans (yZ (by repeat (first | (with_reducible first | exact HB.out | apply yA | apply yN | apply yD | refine yS ?_ GE175.out) | exact HB.out))) hk)), Kd.fresh' (Kd.R_lt (by (with_reducible repeat (first | apply Kd.R_alloc | apply Kd.R_drewN | apply Kd.R_drew)); exact HO_3.out)) k_ hk, Kd.freshB (g := gb175) (o := .cells #[.string a0_0, .slice A0_1 l0_1.length c0_1, .int .i64 a0_2, .int .i64 a0_3, .int .i64 a0_4] 38 (0, 0)) (by (with_reducible repeat (first | refine zN ?_ _ | refine zD ?_ | refine zA ?_ _)); exact BK175.out) k_ hk⟩) _ (Nat.le_refl _)) (Below.refl _ _) (Nat.le_refl _) (by simp) ?_; (case hd => rfl); (case hg => rfl); (case hr => first | (go_simp; done) | (go_simp; rfl)); (case hp => exact (Reps.c5 (show Kd.FK k38 _ _ (⟨a0_0, l0_1, a0_2, a0_3, a0_4⟩ : S38) [.string a0_0, .slice A0_1 l0_1.length c0_1, .int .i64 a0_2, .int .i64 a0_3, .int .i64 a0_4] from (k38_mkF _ _ (⟨a0_0, l0_1, a0_2, a0_3, a0_4⟩ : S38) (Kd.V_reads' (Kd.V_mono (ok' := (fun k_ => (P0_1_ k_ ∨ w.heap.size ≤ k_) ∧ some k_ ≠ (u3 : Value).ownBlock ∧ k_ ≠ gb175)) (HO_176001.out) (fun k_ hk => ⟨hk.1, ⟨hk.2.1, hk.2.2⟩⟩))).2.1 (Kd.V_F (Kd.V_mono (ok' := (fun k_ => (P0_1_ k_ ∨ w.heap.size ≤ k_) ∧ some k_ ≠ (u3 : Value).ownBlock ∧ k_ ≠ gb175)) (HO_176001.out) (fun k_ hk => ⟨hk.1, ⟨hk.2.1, hk.2.2⟩⟩))))) (Reps.none _ _))); intro v184 w14 ho15 hb hg_ hnew_; clear hg_ hnew_; (first | rw [← Ny183.out] at ho15 | (simp only [Int.reduceToNat] at ho15; rw [← Ny183.out] at ho15)); have n0_ := aK (Kd.R_below (by (with_reducible repeat (first | apply Kd.R_alloc | apply Kd.R_drewN | apply Kd.R_drew)); exact HO_3.out) hb); have n1_ := aK (Kd.V_elder' (by (with_reducible repeat (first | apply Kd.V_alloc | apply Kd.V_drewN | apply Kd.V_drew)); exact HO_176001.out) (Kd.N_base ho15) hb); have n2_ := aK (Kd.N_lower ho15 (yZ (by repeat (first | (with_reducible first | exact HB.out | apply yA | apply yN | apply yD | refine yS ?_ GE175.out) | exact HB.out)))); have n3_ := zG BK175 hb (fun h => by (with_reducible repeat (first | refine zN ?_ _ | refine zD ?_ | refine zA ?_ _)); exact h); have n4_ := aK (yT (by repeat (first | (with_reducible first | exact HB.out | apply yA | apply yN | apply yD | refine yS ?_ GE175.out) | exact HB.out)) hb); clear HO_3; clear HO_176001; clear BK175; clear HB; have HO_3 := n0_; have HO_176001 := n1_; have HO185 := n2_; have BK175 := n3_; have HB := n4_; clear n0_ n1_ n2_ n3_ n4_; clear hb ho15; obtain ⟨Ao16, co16, eo16⟩ := Kd.R_slice HO_3.out; subst eo16; obtain ⟨Ao17, co17, eo17⟩ := Kd.N_slice HO185.out; subst eo17) | ((with_reducible refine gate_callee (f := 21) rfl ?_); refine goesL_ (some 35) rfl rfl Tryz.func21 (by kernel_rfl) rfl #[.slice Ao16 x3_1.length co16, .slice Ao17 y183.length co17] rfl (by (try simp only [List.map_toArray, List.map_cons, List.map_nil]); first | done | rfl | (simp only [List.length_drop, List.length_take]; rfl)) ?_; (with_reducible refine (gangsawref50_Check.calls k1 _ _ x3_1 _ _ y183 t186 _ ?side1 ?side2 ?side3 ?side4 A12.out).mono ?_); (case side1 => repeat (first | exact (Kd.R_reads' HO_3.out).2.2 | (with_reducible refine Kd.C_alloc ?_ _) | (with_reducible refine Kd.C_drewN ?_ _) | (with_reducible refine Kd.C_drew ?_))); (case side2 => exact (Kd.R_reads' HO_3.out).2.1); (case side3 => repeat (first | exact (Kd.N_reads' HO185.out).2.2 | (with_reducible refine Kd.C_alloc ?_ _) | (with_reducible refine Kd.C_drewN ?_ _) | (with_reducible refine Kd.C_drew ?_))); (case side4 => exact (Kd.N_reads' HO185.out).2.1); rintro e w18 ⟨rfl, hb⟩; refine ⟨_, rfl, ?_⟩; have n0_ := aK (Kd.R_below (by (with_reducible repeat (first | apply Kd.R_alloc | apply Kd.R_drewN | apply Kd.R_drew)); exact HO_3.out) hb); have n1_ := aK (Kd.V_below (by (with_reducible repeat (first | apply Kd.V_alloc | apply Kd.V_drewN | apply Kd.V_drew)); exact HO_176001.out) hb); have n2_ := aK (Kd.N_below (by (with_reducible repeat (first | apply Kd.N_alloc | apply Kd.N_drewN | apply Kd.N_drew)); exact HO185.out) hb); have n3_ := zG BK175 hb (fun h => by (with_reducible repeat (first | refine zN ?_ _ | refine zD ?_ | refine zA ?_ _)); exact h); have n4_ := aK (yT (by repeat (first | (with_reducible first | exact HB.out | apply yA | apply yN | apply yD | refine yS ?_ GE175.out) | exact HB.out)) hb); clear HO_3; clear HO_176001; clear HO185; clear BK175; clear HB; have HO_3 := n0_; have HO_176001 := n1_; have HO185 := n2_; have BK175 := n3_; have HB := n4_; clear n0_ n1_ n2_ n3_ n4_; (try clear hb); (try clear hb2); (try clear hk); (try clear hi)))
     go_ret
     exact ⟨by first | rfl | (simp [errW_none, errW_some] <;> rfl) | (simp [*, errW_none, errW_some] <;> rfl), by repeat (first | (with_reducible first | exact HB.out | apply yA | apply yN | apply yD | refine yS ?_ GE175.out) | exact HB.out)⟩
   ·rw [if_neg c5] at H
    have c5b0 : decide (x4_1 < (l0_1.length : Int)) = false := decide_eq_false c5
    clear c5
    obtain ⟨y187, hy187⟩ : ∃ y_ : List (S38), y_ = (([(⟨a0_0, l0_1, a0_2, a0_3, a0_4⟩ : S38)] : List (S38))) := ⟨_, rfl⟩
    replace H : ((gangsawref50_Check.f k1 x3_1 y187).bind fun t190 => (some t190)) = some r := by first | (rw [hy187]; with_reducible exact H) | (have H2_ := (Option.bind_some _ _).symm.trans H; rw [hy187]; with_reducible exact H2_) | (have H2_ := (Option.bind_some _ _).symm.trans H; with_reducible exact H2_) | with_reducible exact H | (rw [hy187]; exact H) | exact H
    have Ny187 := aK hy187
    clear hy187
    replace H := Option.bind_eq_some_iff.mp H
    obtain ⟨t190, A190, H⟩ := H
    replace H : (some t190) = some r := H
    have A19 := aK A190
    clear A190
    obtain rfl := Option.some.inj H
    simp only [Option.some.injEq, Prod.mk.injEq] at H
    obtain ⟨rfl⟩ := H
    have hcz20_0 := zI BK175 0 rfl
    have hcz20_1 := zI BK175 1 rfl
    have hcz20_2 := zI BK175 2 rfl
    have hcz20_3 := zI BK175 3 rfl
    have hcz20_4 := zI BK175 4 rfl
    have hfz20_0 := zF BK175.out 0
    have hfz20_1 := zF BK175.out 1
    have hfz20_2 := zF BK175.out 2
    have hfz20_3 := zF BK175.out 3
    have hfz20_4 := zF BK175.out 4
    go_wp2_with (first | ((with_reducible refine gate_dst (N := 34) rfl ?_); refine Kd.N_lit k38 _ 38 ?hg (N' := 34) ?hd (xs := ([(⟨a0_0, l0_1, a0_2, a0_3, a0_4⟩ : S38)] : List (S38))) (inner := [.string a0_0, .slice A0_1 l0_1.length c0_1, .int .i64 a0_2, .int .i64 a0_3, .int .i64 a0_4]) (ok := (fun k_ => (P0_1_ k_ ∨ w.heap.size ≤ k_) ∧ some k_ ≠ (u3 : Value).ownBlock ∧ k_ ≠ gb175)) (okp := (fun k_ => (P0_1_ k_ ∨ w.heap.size ≤ k_) ∧ some k_ ≠ (u3 : Value).ownBlock ∧ k_ ≠ gb175)) ?hr ?hp (fun _ hk => hk) ((show ∀ k_, wr.heap.size ≤ k_ → (fun k_ => (P0_1_ k_ ∨ w.heap.size ≤ k_) ∧ some k_ ≠ (u3 : Value).ownBlock ∧ k_ ≠ gb175) k_ from fun k_ hk => ⟨(.inr (Nat.le_trans (yZ (by repeat (first | (with_reducible first | exact HB.out | apply yA | apply yN | apply yD | refine yS ?_ GE175.out) | exact HB.out))) hk)), Kd.fresh' (Kd.R_lt (by (with_reducible repeat (first | apply Kd.R_alloc | apply Kd.R_drewN | apply Kd.R_drew)); exact HO_3.out)) k_ hk, Kd.freshB (g := gb175) (o := .cells #[.string a0_0, .slice A0_1 l0_1.length c0_1, .int .i64 a0_2, .int .i64 a0_3, .int .i64 a0_4] 38 (0, 0)) (by (with_reducible repeat (first | refine zN ?_ _ | refine zD ?_ | refine zA ?_ _)); exact BK175.out) k_ hk⟩) _ (Nat.le_refl _)) (Below.refl _ _) (Nat.le_refl _) (by simp) ?_; (case hd => rfl); (case hg => rfl); (case hr => first | (go_simp; done) | (go_simp; rfl)); (case hp => exact (Reps.c5 (show Kd.FK k38 _ _ (⟨a0_0, l0_1, a0_2, a0_3, a0_4⟩ : S38) [.string a0_0, .slice A0_1 l0_1.length c0_1, .int .i64 a0_2, .int .i64 a0_3, .int .i64 a0_4] from (k38_mkF _ _ (⟨a0_0, l0_1, a0_2, a0_3, a0_4⟩ : S38) (Kd.V_reads' (Kd.V_mono (ok' := (fun k_ => (P0_1_ k_ ∨ w.heap.size ≤ k_) ∧ some k_ ≠ (u3 : Value).ownBlock ∧ k_ ≠ gb175)) (HO_176001.out) (fun k_ hk => ⟨hk.1, ⟨hk.2.1, hk.2.2⟩⟩))).2.1 (Kd.V_F (Kd.V_mono (ok' := (fun k_ => (P0_1_ k_ ∨ w.heap.size ≤ k_) ∧ some k_ ≠ (u3 : Value).ownBlock ∧ k_ ≠ gb175)) (HO_176001.out) (fun k_ hk => ⟨hk.1, ⟨hk.2.1, hk.2.2⟩⟩))))) (Reps.none _ _))); intro v188 w21 ho22 hb hg_ hnew_; clear hg_ hnew_; (first | rw [← Ny187.out] at ho22 | (simp only [Int.reduceToNat] at ho22; rw [← Ny187.out] at ho22)); have n0_ := aK (Kd.R_below (by (with_reducible repeat (first | apply Kd.R_alloc | apply Kd.R_drewN | apply Kd.R_drew)); exact HO_3.out) hb); have n1_ := aK (Kd.V_elder' (by (with_reducible repeat (first | apply Kd.V_alloc | apply Kd.V_drewN | apply Kd.V_drew)); exact HO_176001.out) (Kd.N_base ho22) hb); have n2_ := aK (Kd.N_lower ho22 (yZ (by repeat (first | (with_reducible first | exact HB.out | apply yA | apply yN | apply yD | refine yS ?_ GE175.out) | exact HB.out)))); have n3_ := zG BK175 hb (fun h => by (with_reducible repeat (first | refine zN ?_ _ | refine zD ?_ | refine zA ?_ _)); exact h); have n4_ := aK (yT (by repeat (first | (with_reducible first | exact HB.out | apply yA | apply yN | apply yD | refine yS ?_ GE175.out) | exact HB.out)) hb); clear HO_3; clear HO_176001; clear BK175; clear HB; have HO_3 := n0_; have HO_176001 := n1_; have HO189 := n2_; have BK175 := n3_; have HB := n4_; clear n0_ n1_ n2_ n3_ n4_; clear hb ho22; obtain ⟨Ao23, co23, eo23⟩ := Kd.R_slice HO_3.out; subst eo23; obtain ⟨Ao24, co24, eo24⟩ := Kd.N_slice HO189.out; subst eo24) | ((with_reducible refine gate_callee (f := 21) rfl ?_); refine goesL_ (some 35) rfl rfl Tryz.func21 (by kernel_rfl) rfl #[.slice Ao23 x3_1.length co23, .slice Ao24 y187.length co24] rfl (by (try simp only [List.map_toArray, List.map_cons, List.map_nil]); first | done | rfl | (simp only [List.length_drop, List.length_take]; rfl)) ?_; (with_reducible refine (gangsawref50_Check.calls k1 _ _ x3_1 _ _ y187 t190 _ ?side1 ?side2 ?side3 ?side4 A19.out).mono ?_); (case side1 => repeat (first | exact (Kd.R_reads' HO_3.out).2.2 | (with_reducible refine Kd.C_alloc ?_ _) | (with_reducible refine Kd.C_drewN ?_ _) | (with_reducible refine Kd.C_drew ?_))); (case side2 => exact (Kd.R_reads' HO_3.out).2.1); (case side3 => repeat (first | exact (Kd.N_reads' HO189.out).2.2 | (with_reducible refine Kd.C_alloc ?_ _) | (with_reducible refine Kd.C_drewN ?_ _) | (with_reducible refine Kd.C_drew ?_))); (case side4 => exact (Kd.N_reads' HO189.out).2.1); rintro e w25 ⟨rfl, hb⟩; refine ⟨_, rfl, ?_⟩; have n0_ := aK (Kd.R_below (by (with_reducible repeat (first | apply Kd.R_alloc | apply Kd.R_drewN | apply Kd.R_drew)); exact HO_3.out) hb); have n1_ := aK (Kd.V_below (by (with_reducible repeat (first | apply Kd.V_alloc | apply Kd.V_drewN | apply Kd.V_drew)); exact HO_176001.out) hb); have n2_ := aK (Kd.N_below (by (with_reducible repeat (first | apply Kd.N_alloc | apply Kd.N_drewN | apply Kd.N_drew)); exact HO189.out) hb); have n3_ := zG BK175 hb (fun h => by (with_reducible repeat (first | refine zN ?_ _ | refine zD ?_ | refine zA ?_ _)); exact h); have n4_ := aK (yT (by repeat (first | (with_reducible first | exact HB.out | apply yA | apply yN | apply yD | refine yS ?_ GE175.out) | exact HB.out)) hb); clear HO_3; clear HO_176001; clear HO189; clear BK175; clear HB; have HO_3 := n0_; have HO_176001 := n1_; have HO189 := n2_; have BK175 := n3_; have HB := n4_; clear n0_ n1_ n2_ n3_ n4_; (try clear hb); (try clear hb2); (try clear hk); (try clear hi)))
    go_ret
    exact ⟨by first | rfl | (simp [errW_none, errW_some] <;> rfl) | (simp [*, errW_none, errW_some] <;> rfl), by repeat (first | (with_reducible first | exact HB.out | apply yA | apply yN | apply yD | refine yS ?_ GE175.out) | exact HB.out)⟩

def gangsawref52_Head.l0 : Nat → Int → Int → Int → ByteArray → List (S40) → Int → Int → Int → Option (Int)
 | 0, _, _, _, _, _, _, _, _ => none
 | k + 1, x1, x5, x6, x192000, x192001, x192002, x192003, x192004 => if x6 < x1 then (if 0 ≤ x6 then (if x6 < (x192001.length : Int) then (gangsawref52_Head.l0 k x1 (wrap64 (x5 + (wrap64 (((rd_T40 x192001 x6).f1) + ((rd_T40 x192001 x6).f2))))) (wrap64 (x6 + 1)) x192000 x192001 x192002 x192003 x192004) else (none)) else (none)) else (some x5)
def gangsawref52_Head.f (k : Nat) (a0_0 : ByteArray) (l0_1 : List (S40)) (a0_2 : Int) (a0_3 : Int) (a0_4 : Int) (a1 : Int) : Option (Int) := gangsawref52_Head.l0 k a1 a0_2 0 a0_0 l0_1 a0_2 a0_3 a0_4
theorem gangsawref52_Head.mono_l : ∀ k, (∀ y0 y1 y2 y3 y4 y5 y6 y7, LeO (gangsawref52_Head.l0 k y0 y1 y2 y3 y4 y5 y6 y7) (gangsawref52_Head.l0 (k + 1) y0 y1 y2 y3 y4 y5 y6 y7))
 | 0 => fun _ _ _ _ _ _ _ _ r h => by simp [gangsawref52_Head.l0] at h
 | k + 1 => by
  have ih0 := gangsawref52_Head.mono_l k
  ·intro y0 y1 y2 y3 y4 y5 y6 y7
   unfold gangsawref52_Head.l0
   repeat' first
   | (with_reducible exact ih0 _ _ _ _ _ _ _ _)
   | (with_reducible exact LeO.refl _)
   | (with_reducible exact LeO.none _)
   | (with_reducible refine LeO.ite ?_ ?_)
   | (with_reducible refine LeO.bind ?_ (fun _ => ?_))
   | exact ih0 _ _ _ _ _ _ _ _
   | exact LeO.none _
   | refine LeO.ite ?_ ?_
   | refine LeO.bind ?_ (fun _ => ?_)
theorem gangsawref52_Head.mono : ∀ a0 a1 a2 a3 a4 a5 k, LeO (gangsawref52_Head.f k a0 a1 a2 a3 a4 a5) (gangsawref52_Head.f (k + 1) a0 a1 a2 a3 a4 a5) := by
 intro a0 a1 a2 a3 a4 a5 k
 have ih0 := gangsawref52_Head.mono_l k
 unfold gangsawref52_Head.f
 repeat' first
   | (with_reducible exact ih0 _ _ _ _ _ _ _ _)
   | (with_reducible exact LeO.refl _)
   | (with_reducible exact LeO.none _)
   | (with_reducible refine LeO.ite ?_ ?_)
   | (with_reducible refine LeO.bind ?_ (fun _ => ?_))
   | exact ih0 _ _ _ _ _ _ _ _
   | exact LeO.none _
   | refine LeO.ite ?_ ?_
   | refine LeO.bind ?_ (fun _ => ?_)
set_option maxHeartbeats 8000000 in
set_option maxRecDepth 100000 in
theorem gangsawref52_Head.calls (k : Nat) (a0_0 : ByteArray) (A0_1 : Option Addr) (c0_1 : Nat) (l0_1 : List (S40)) (a0_2 : Int) (a0_3 : Int) (a0_4 : Int) (a1 : Int) (r : Int) (w : World) (hr0_1 : Kd.C k40 w A0_1 l0_1.length l0_1) (hc0_1 : l0_1.length ≤ c0_1) (h : gangsawref52_Head.f k a0_0 l0_1 a0_2 a0_3 a0_4 a1 = some r) :
  Calls Tryz.prog 47 #[.agg #[.string a0_0, .slice A0_1 l0_1.length c0_1, .int .i64 a0_2, .int .i64 a0_3, .int .i64 a0_4], .int .i64 a1] w fun e w' => e = .returned (.int .i64 r) ∧ Below w.heap.size w w' := by
 have hu38 := Tryz.underlying38
 have HR0_1 := aK hr0_1
 have HC0_1 := aK hc0_1
 clear hr0_1 hc0_1
 have HB := aK (Below.refl w.heap.size w)
 have H : (gangsawref52_Head.l0 k a1 a0_2 0 a0_0 l0_1 a0_2 a0_3 a0_4) = some r := h
 clear h
 have H' := aK H
 clear H
 go_enter Tryz.func47, Tryz.ntmps47
 go_wp2_with (first | ((with_reducible refine gate_dst (N := 2) rfl ?_); refine box_event ?hg (N := 2) ?hd (cs := #[.string a0_0, .slice A0_1 l0_1.length c0_1, .int .i64 a0_2, .int .i64 a0_3, .int .i64 a0_4]) (t := 38) ?hr ?_; (case hd => rfl); (case hg => rfl); (case hr => first | (go_simp; done) | (go_simp; rfl)); intro gb191 hg w3 hbox hb; have ⟨n0_, n2_⟩ := zV (w := w) hb hg (by repeat (first | (with_reducible first | exact HB.out | apply yA | apply yN | apply yD) | exact HB.out)); have n1_ := aK (hbox); have n3_ := n2_; clear HB; have HB := n0_; have BK191 := n1_; have GW191 := n2_; have GE191 := n3_; clear n0_ n1_ n2_ n3_; clear hb hbox hg; have hcz4_0 := zI BK191 0 rfl; have hcz4_1 := zI BK191 1 rfl; have hcz4_2 := zI BK191 2 rfl; have hcz4_3 := zI BK191 3 rfl; have hcz4_4 := zI BK191 4 rfl; have hfz4_0 := zF BK191.out 0; have hfz4_1 := zF BK191.out 1; have hfz4_2 := zF BK191.out 2; have hfz4_3 := zF BK191.out 3; have hfz4_4 := zF BK191.out 4))
 go_loopg [5, 6] k (fun kq v5 v6 w' => ∃ (x5_1 : Int) (x6_1 : Int), v5 = .int .i64 x5_1 ∧ v6 = .int .i64 x6_1 ∧ Aside0 (gangsawref52_Head.l0 kq a1 x5_1 x6_1 a0_0 l0_1 a0_2 a0_3 a0_4 = some r) ∧ Aside0 (kq ≤ k) ∧ Aside0 (w'.heap[gb191]? = some (.cells #[.string a0_0, (.slice A0_1 l0_1.length c0_1), .int .i64 a0_2, .int .i64 a0_3, .int .i64 a0_4] 38 (0, 0))) ∧ Aside0 (Below w.heap.size w w'))
 case atStart => exact ⟨(a0_2), (0), (by first | rfl | (simp; done) | (simp [*]; done)), (by first | rfl | (simp; done) | (simp [*]; done)), H', ⟨Nat.le_refl _⟩, ⟨by (with_reducible repeat (first | refine zN ?_ _ | refine zD ?_ | refine zA ?_ _)); exact BK191.out⟩, ⟨by repeat (first | (with_reducible first | exact HB.out | apply yA | apply yN | apply yD | refine yS ?_ GE191.out) | exact HB.out)⟩⟩
 case round =>
  clear H'
  try clear p2
  try clear c4
  try clear hcz4_0
  try clear hcz4_1
  try clear hcz4_2
  try clear hcz4_3
  try clear hcz4_4
  try clear hfz4_0
  try clear hfz4_1
  try clear hfz4_2
  try clear hfz4_3
  try clear hfz4_4
  obtain ⟨x5_1, x6_1, rfl, rfl, HA, HK1, BK191, HB⟩ := hrel
  cases gk with
  | zero => exact absurd HA.out (by simp [gangsawref52_Head.l0])
  | succ k1 =>
   have H := HA.out
   clear HA
   simp only [gangsawref52_Head.l0] at H
   by_cases c5 : x6_1 < a1
   ·rw [if_pos c5] at H
    have c5b0 : decide (x6_1 < a1) = true := decide_eq_true c5
    clear c5
    by_cases c6 : 0 ≤ x6_1
    ·rw [if_pos c6] at H
     have c6b0 : decide (0 ≤ x6_1) = true := decide_eq_true c6
     clear c6
     by_cases c7 : x6_1 < (l0_1.length : Int)
     ·rw [if_pos c7] at H
      have c7b0 : decide (x6_1 < (l0_1.length : Int)) = true := decide_eq_true c7
      clear c7
      have H' := aK H
      clear H
      have hcz8_0 := zI BK191 0 rfl
      have hcz8_1 := zI BK191 1 rfl
      have hcz8_2 := zI BK191 2 rfl
      have hcz8_3 := zI BK191 3 rfl
      have hcz8_4 := zI BK191 4 rfl
      have hfz8_0 := zF BK191.out 0
      have hfz8_1 := zF BK191.out 1
      have hfz8_2 := zF BK191.out 2
      have hfz8_3 := zF BK191.out 3
      have hfz8_4 := zF BK191.out 4
      have p192 : 0 ≤ (x6_1 : Int) := of_decide_eq_true (by first | (with_reducible assumption) | assumption)
      have q192 : x6_1 < (l0_1.length : Int) := of_decide_eq_true (by first | (with_reducible assumption) | assumption)
      obtain ⟨ad192, e192, hx192_0, hx192_1, hx192_2⟩ := at_T40 HR0_1.out x6_1 p192 q192
      cases e192
      replace hx192_0 := (HB.out.cell (World.block_lt_of_cell? w _ hx192_0)).trans hx192_0
      replace hx192_1 := (HB.out.cell (World.block_lt_of_cell? w _ hx192_1)).trans hx192_1
      replace hx192_2 := (HB.out.cell (World.block_lt_of_cell? w _ hx192_2)).trans hx192_2
      replace p192 := eq_true p192
      replace q192 := eq_true q192
      have p193 : 0 ≤ (x6_1 : Int) := of_decide_eq_true (by first | (with_reducible assumption) | assumption)
      have q193 : x6_1 < (l0_1.length : Int) := of_decide_eq_true (by first | (with_reducible assumption) | assumption)
      obtain ⟨ad193, e193, hx193_0, hx193_1, hx193_2⟩ := at_T40 HR0_1.out x6_1 p193 q193
      obtain rfl : ad192 = ad193 := (by injection e193)
      replace hx193_0 := (HB.out.cell (World.block_lt_of_cell? w _ hx193_0)).trans hx193_0
      replace hx193_1 := (HB.out.cell (World.block_lt_of_cell? w _ hx193_1)).trans hx193_1
      replace hx193_2 := (HB.out.cell (World.block_lt_of_cell? w _ hx193_2)).trans hx193_2
      replace p193 := eq_true p193
      replace q193 := eq_true q193
      go_wp2
      repeat (go_quiet (fail); try go_wp2)
      all_goals (go_roundg k1; (case measure => have := HK1.out; omega); (case rel => exact ⟨(wrap64 (x5_1 + (wrap64 (((rd_T40 l0_1 x6_1).f1) + ((rd_T40 l0_1 x6_1).f2))))), (wrap64 (x6_1 + 1)), (by first | rfl | (simp; done) | (simp [*]; done)), (by first | rfl | (simp; done) | (simp [*]; done)), H', ⟨by have := HK1.out; omega⟩, ⟨by (with_reducible repeat (first | refine zN ?_ _ | refine zD ?_ | refine zA ?_ _)); exact BK191.out⟩, ⟨by repeat (first | (with_reducible first | exact HB.out | apply yA | apply yN | apply yD | refine yS ?_ GE191.out) | exact HB.out)⟩⟩))
     ·rw [if_neg c7] at H
      exact absurd H (by simp)
    ·rw [if_neg c6] at H
     exact absurd H (by simp)
   ·rw [if_neg c5] at H
    have c5b0 : decide (x6_1 < a1) = false := decide_eq_false c5
    clear c5
    obtain rfl := Option.some.inj H
    simp only [Option.some.injEq, Prod.mk.injEq] at H
    obtain ⟨rfl⟩ := H
    go_wp2
    go_ret
    exact ⟨by first | rfl | (simp [errW_none, errW_some] <;> rfl) | (simp [*, errW_none, errW_some] <;> rfl), by repeat (first | (with_reducible first | exact HB.out | apply yA | apply yN | apply yD | refine yS ?_ GE191.out) | exact HB.out)⟩

end Go.Proofs.YtkdbcaegeeeiaaaGreat.P
