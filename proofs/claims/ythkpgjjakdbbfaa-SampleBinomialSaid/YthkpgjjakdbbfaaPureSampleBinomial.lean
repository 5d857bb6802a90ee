/-
  SampleBinomial: the plain law.
-/
import Derived.Test.YthkpgjjakdbbfaaPLeast
import Derived.Test.YthkpgjjakdbbfaaPx37
import Derived.Test.YthkpgjjakdbbfaaPx36
set_option linter.unusedVariables false
set_option linter.unusedSimpArgs false
namespace Go.Proofs.Ythkpgjjakdbbfaa.PBinomial
open Go.RowKit Go.Proofs.YthkpgjjakdbbfaaW.PrintWords Go.Proofs.YthkpgjjakdbbfaaW.PrintMore Go.Proofs.Ythkpgjjakdbbfaa.P Go.Proofs.Ythkpgjjakdbbfaa.Rnd Go.Proofs.Ythkpgjjakdbbfaa.Gen Go.Proofs.Ythkpgjjakdbbfaa.Binom Go.Proofs.Ythkpgjjakdbbfaa.Bits Go.Proofs.Ythkpgjjakdbbfaa.PFrac Go.Proofs.Ythkpgjjakdbbfaa.PWide Go.Proofs.Ythkpgjjakdbbfaa.PConf Go.Proofs.Ythkpgjjakdbbfaa.PLeast
theorem psum_split (f : Nat → Nat) (j : Nat) : ∀ N, j < N → psum f j N = f j + psum f (j + 1) N := by
  intro N
  induction N with
  | zero => intro h; omega
  | succ N ih =>
    intro h
    simp only [psum]
    by_cases e : j = N
    · subst e
      rw [if_pos (Nat.le_refl _), if_neg (by omega), psum_start _ _ _ (Nat.le_refl _), psum_start _ _ _ (by omega)]
      omega
    · rw [ih (by omega), if_pos (by omega), if_pos (by omega)]
      omega
theorem psum_add (f : Nat → Nat) (N : Nat) : ∀ k, k ≤ N → psum f 0 k + psum f k N = psum f 0 N := by
  intro k
  induction k with
  | zero => intro _; simp [psum]
  | succ k ih =>
    intro h
    have h1 := ih (by omega)
    rw [psum_split f k N (by omega)] at h1
    have h2 : psum f 0 (k + 1) = psum f 0 k + f k := by simp [psum]
    omega
theorem ch_full : ∀ n, ch n n = 1 := by
  intro n
  induction n with
  | zero => rfl
  | succ n ih => simp only [ch, ih, ch_out n (n + 1) (by omega)]
theorem ch_symm : ∀ n m, m ≤ n → ch n (n - m) = ch n m := by
  intro n
  induction n with
  | zero =>
    intro m h
    obtain rfl : m = 0 := by omega
    rfl
  | succ n ih =>
    intro m h
    cases m with
    | zero => rw [Nat.sub_zero, ch_full, ch_zero]
    | succ j =>
      by_cases e : j = n
      · subst e
        rw [Nat.sub_self, ch_zero, ch_full]
      · have e1 : n + 1 - (j + 1) = (n - (j + 1)) + 1 := by omega
        rw [e1]
        simp only [ch]
        rw [show n - (j + 1) + 1 = n - j by omega, ih j (by omega), ih (j + 1) (by omega)]
        omega
theorem row_symm (a b n m : Nat) (h : m ≤ n) : rowF b a n (n - m) = rowF a b n m := by
  rw [row_eq b a n (n - m) (by omega), row_eq a b n m h, ch_symm n m h, show n - (n - m) = m by omega, Nat.mul_assoc, Nat.mul_assoc, Nat.mul_comm (b ^ (n - m))]
theorem tail_rev (a b n : Nat) : ∀ k, k ≤ n + 1 → psum (rowF b a n) (n + 1 - k) (n + 1) = psum (rowF a b n) 0 k := by
  intro k
  induction k with
  | zero => intro _; rw [psum_start _ _ _ (by omega)]; rfl
  | succ k ih =>
    intro h
    have h1 := ih (by omega)
    have e : n + 1 - (k + 1) = n - k := by omega
    have e2 : n - k + 1 = n + 1 - k := by omega
    rw [e, psum_split _ (n - k) (n + 1) (by omega), e2, h1, row_symm a b n k (by omega)]
    have h2 : psum (rowF a b n) 0 (k + 1) = psum (rowF a b n) 0 k + rowF a b n k := by simp [psum]
    omega
theorem tails (a b n k : Nat) (h : k ≤ n + 1) : tailV b a n (n + 1 - k) = (a + b) ^ n - tailV a b n k := by
  unfold tailV
  rw [tail_rev a b n k h]
  have h1 := psum_add (rowF a b n) (n + 1) k h
  rw [total] at h1
  omega
theorem tail_mono (a b n k : Nat) (h : k ≤ n) : tailV a b n (k + 1) ≤ tailV a b n k := by
  unfold tailV
  rw [psum_split _ k (n + 1) (by omega)]
  omega
theorem psum_next (a b n k : Nat) : ∀ N, psum (rowF a b (n + 1)) (k + 1) (N + 1) = b * psum (rowF a b n) (k + 1) (N + 1) + a * psum (rowF a b n) k N := by
  intro N
  induction N with
  | zero => simp [psum]
  | succ N ih =>
    have e : psum (rowF a b (n + 1)) (k + 1) (N + 1 + 1) = psum (rowF a b (n + 1)) (k + 1) (N + 1) + if k + 1 ≤ N + 1 then rowF a b (n + 1) (N + 1) else 0 := rfl
    have e2 : psum (rowF a b n) (k + 1) (N + 1 + 1) = psum (rowF a b n) (k + 1) (N + 1) + if k + 1 ≤ N + 1 then rowF a b n (N + 1) else 0 := rfl
    have e3 : psum (rowF a b n) k (N + 1) = psum (rowF a b n) k N + if k ≤ N then rowF a b n N else 0 := rfl
    rw [e, ih, e2, e3]
    by_cases c : k ≤ N
    · rw [if_pos (by omega), if_pos (by omega), if_pos c]
      simp only [rowF]
      generalize psum (rowF a b n) k N = P
      generalize psum (rowF a b n) (k + 1) (N + 1) = Q
      generalize rowF a b n (N + 1) = X
      generalize rowF a b n N = Y
      grind
    · rw [if_neg (by omega), if_neg (by omega), if_neg c]
      simp
theorem tail_next (a b n k : Nat) (h : k ≤ n) : (a + b) * tailV a b n (k + 1) ≤ tailV a b (n + 1) (k + 1) := by
  have h1 := psum_next a b n k (n + 1)
  have h2 : psum (rowF a b n) (k + 1) (n + 1 + 1) = psum (rowF a b n) (k + 1) (n + 1) := by
    show psum (rowF a b n) (k + 1) (n + 1) + (if k + 1 ≤ n + 1 then rowF a b n (n + 1) else 0) = _
    rw [row_out a b n (n + 1) (by omega)]; simp
  have h3 := tail_mono a b n k h
  unfold tailV at *
  rw [h2] at h1
  rw [h1, Nat.add_mul]
  have h4 := Nat.mul_le_mul_left a h3
  omega
theorem new_parts (S W : Nat) (hW : 0 < W) : ∃ x y g : Nat, newV S W = ((x : Int), (y : Int), 0) ∧ x * g = S ∧ y * g = W ∧ 0 < g ∧ 0 < y := by
  have hg : 0 < Nat.gcd S W := Nat.gcd_pos_of_pos_right _ hW
  refine ⟨S / Nat.gcd S W, W / Nat.gcd S W, Nat.gcd S W, rfl, Nat.div_mul_cancel (Nat.gcd_dvd_left S W), Nat.div_mul_cancel (Nat.gcd_dvd_right S W), hg, Nat.div_pos (Nat.gcd_le_right _ hW) hg⟩
theorem cross_le {x y u v g h S W T V : Nat} (hg : 0 < g) (hh : 0 < h) (e1 : x * g = S) (e2 : y * g = W) (e3 : u * h = T) (e4 : v * h = V) (hle : S * V ≤ T * W) : x * v ≤ u * y := by
  subst e1 e2 e3 e4
  have h1 : (x * v) * (g * h) ≤ (u * y) * (g * h) := by
    have a1 : (x * v) * (g * h) = x * g * (v * h) := by grind
    have a2 : (u * y) * (g * h) = u * h * (y * g) := by grind
    rw [a1, a2]; exact hle
  exact Nat.le_of_mul_le_mul_right h1 (Nat.mul_pos hg hh)
theorem cmp_ge {x y : Nat} (h : y ≤ x) : ¬ cmpV (x : Int) (y : Int) < 0 := by
  unfold cmpV
  rw [if_neg (by omega)]
  split <;> omega
theorem new_self (W : Nat) (h : 0 < W) : newV W W = (1, 1, 0) := by
  unfold newV
  rw [Nat.gcd_self, Nat.div_self h]
  rfl
theorem new_compl (S W : Nat) (hS : S ≤ W) (hW : 0 < W) : ∃ x y : Nat, newV S W = ((x : Int), (y : Int), 0) ∧ newV (W - S) W = (((y - x : Nat) : Int), (y : Int), 0) ∧ x ≤ y ∧ 0 < y ∧ y ≤ W := by
  have hg : 0 < Nat.gcd S W := Nat.gcd_pos_of_pos_right _ hW
  have e : Nat.gcd (W - S) W = Nat.gcd S W := by
    obtain ⟨d, rfl⟩ : ∃ d, W = S + d := ⟨W - S, by omega⟩
    rw [Nat.add_sub_cancel_left]
    rw [Nat.gcd_comm, Nat.gcd_comm S]
    simp [Nat.gcd_comm]
  refine ⟨S / Nat.gcd S W, W / Nat.gcd S W, rfl, ?_, Nat.div_le_div_right hS, Nat.div_pos (Nat.gcd_le_right _ hW) hg, Nat.div_le_self _ _⟩
  unfold newV
  rw [e]
  have : (W - S) / Nat.gcd S W = W / Nat.gcd S W - S / Nat.gcd S W := by
    obtain ⟨p, hp⟩ := Nat.gcd_dvd_left S W
    obtain ⟨q, hq⟩ := Nat.gcd_dvd_right S W
    have e1 : S / Nat.gcd S W = p := by rw [Nat.div_eq_of_eq_mul_right hg hp]
    have e2 : W / Nat.gcd S W = q := by rw [Nat.div_eq_of_eq_mul_right hg hq]
    rw [e1, e2]
    refine Nat.div_eq_of_eq_mul_right hg ?_
    rw [Nat.mul_sub, ← hp, ← hq]
  rw [this]
theorem add_one (x y : Nat) (hx : x ≤ y) (hy0 : 0 < y) (hy : y < 1000000000000000000) : Evt (fun k => fraction_add.f k (x : Int) (y : Int) ((y - x : Nat) : Int) (y : Int)) (1, 1, 0) := by
  have u1 : IntKind.u64.wrap (y : Int) = (y : Int) := u64_nat _ (by omega)
  have u2 : wrap64 (y : Int) = (y : Int) := w64_nat _ (by omega)
  have u3 : Int.tdiv (y : Int) (y : Int) = 1 := by rw [Int.tdiv_eq_ediv_of_nonneg (by omega), Int.ediv_self (by omega)]
  have u4 : wrap64 1 = 1 := by simp [wrap64]
  have u5 : IntKind.u64.wrap 1 = 1 := rfl
  have u6 : Int.tmod (y : Int) (y : Int) = 0 := by rw [Int.tmod_eq_emod_of_nonneg (by omega), Int.emod_self]
  have p1 : fraction_product.f (x : Int) 1 = some (false, 0, (x : Int)) := by
    have := ftimes_f x 1 (by omega) (by omega)
    rw [Nat.mul_one] at this
    have h1 : hiW x = 0 := by unfold hiW; omega
    have h2 : loW x = (x : Int) := by unfold loW; omega
    rw [h1, h2] at this
    exact this
  have p2 : fraction_product.f ((y - x : Nat) : Int) 1 = some (false, 0, ((y - x : Nat) : Int)) := by
    have := ftimes_f (y - x) 1 (by omega) (by omega)
    rw [Nat.mul_one] at this
    have h1 : hiW (y - x) = 0 := by unfold hiW; omega
    have h2 : loW (y - x) = ((y - x : Nat) : Int) := by unfold loW; omega
    rw [h1, h2] at this
    exact this
  have s1 : ∀ k, fraction_sum.f k false 0 (x : Int) false 0 ((y - x : Nat) : Int) = some (false, 0, (y : Int)) := by
    intro k
    unfold fraction_sum.f bits_Add64.f
    rw [if_pos (by rfl), if_pos (by omega), if_pos (by omega), if_pos (by omega), if_pos (by omega), Option.bind_some]
    have e1 : ((x : Int) + ((y - x : Nat) : Int) + 0) % 18446744073709551616 = (y : Int) := by omega
    have e2 : ((x : Int) + ((y - x : Nat) : Int) + 0) / 18446744073709551616 = 0 := by omega
    rw [e1, e2]
    rfl
  have o1 : fraction_over.f false 0 (y : Int) (y : Int) = some (1, 0, true) := by
    unfold fraction_over.f bits_Div64.f
    rw [if_neg (by omega), if_neg (by omega), show Int.tmod 0 (y : Int) = 0 from Int.zero_tmod _, if_neg (by omega), if_pos rfl, Option.bind_some, u3, u6, u5, decide_eq_true (by omega)]
  have m1 : bits_Mul64.f 1 1 = some (0, 1) := by
    have := mul64_f 1 1 (by omega) (by omega)
    exact this
  unfold fraction_add.f
  rw [u1]
  have hg := gcd_ev y y
  rw [Nat.gcd_self] at hg
  refine Evt.bind hg ?_
  have hne : ¬ (y : Int) = 0 := by omega
  simp only [u2, u1, u3, u4, p1, p2, s1, o1, Option.bind_some, if_neg hne]
  have hg2 := gcd_ev 0 y
  rw [Nat.gcd_zero_left] at hg2
  refine Evt.bind hg2 ?_
  simp only [o1, u5, m1, u3, Option.bind_some, if_true, if_neg hne]
  refine Evt.shift ?_
  refine Evt.of_eq (g := fun k => (fraction_makeFrac.f k false 1 1).bind fun b => some (b.1, b.2.1, b.2.2)) ?_ (fun k => by rw [fraction_add.j0, if_neg (by simp), if_neg (by omega)])
  refine Evt.bind (v := (1, 1, 0)) ?_ (Evt.pure _)
  unfold fraction_makeFrac.f
  refine Evt.shift ?_
  refine Evt.const (fun k => ?_)
  rw [if_neg (by omega), fraction_makeFrac.j0, decide_eq_false (by omega), if_neg (by simp), if_neg (by simp), u4]
end Go.Proofs.Ythkpgjjakdbbfaa.PBinomial
namespace Go.Proofs.Ythkpgjjakdbbfaa.Pure
open Go.RowKit Go.Proofs.YthkpgjjakdbbfaaW.PrintWords Go.Proofs.Ythkpgjjakdbbfaa.P Go.Proofs.Ythkpgjjakdbbfaa.Rnd Go.Proofs.Ythkpgjjakdbbfaa.Open Go.Proofs.Ythkpgjjakdbbfaa.Ks Go.Proofs.Ythkpgjjakdbbfaa.Gen Go.Proofs.Ythkpgjjakdbbfaa.Binom Go.Proofs.Ythkpgjjakdbbfaa.PFrac Go.Proofs.Ythkpgjjakdbbfaa.PConf Go.Proofs.Ythkpgjjakdbbfaa.PLeast Go.Proofs.Ythkpgjjakdbbfaa.PBinomial
theorem SampleBinomial : ∀ (x0 : Int) (x1 : Int) (x2 : S33), (GInt .i64) x0 → (GInt .i64) x1 → G33 x2 → ∃ k, gangsawlaw33_SampleBinomial.f k x0 x1 x2.f0 x2.f1 = some true := by
  rintro n k ⟨num, den⟩ hn hk -
  refine Evt.exists_ (f := fun f => gangsawlaw33_SampleBinomial.f f n k num den) ?_
  have hyes : Evt (fun f => gangsawlaw33_SampleBinomial.j0 f n k true num den) true := Evt.shift (Evt.const (fun f => by rw [gangsawlaw33_SampleBinomial.j0, if_pos rfl]))
  unfold gangsawlaw33_SampleBinomial.f
  refine Evt.bind0 (g := gangsawlaw33_awake_N.f) rfl ?_
  simp only [if_true]
  by_cases h1 : n > 58
  · exact Evt.of_eq hyes (fun f => by rw [if_pos h1])
  by_cases h2 : k < 1
  · exact Evt.of_eq hyes (fun f => by rw [if_neg h1, if_pos h2])
  by_cases h3 : k > n
  · exact Evt.of_eq hyes (fun f => by rw [if_neg h1, if_neg h2, decide_eq_true h3])
  refine Evt.of_eq (g := fun f => gangsawlaw33_SampleBinomial.j0 f n k false num den) ?_ (fun f => by rw [if_neg h1, if_neg h2, decide_eq_false h3])
  refine Evt.shift ?_
  simp only [gangsawlaw33_SampleBinomial.j0, Bool.false_eq_true, if_false]
  refine Evt.bind (sconfidence_ev num den n k) ?_
  by_cases hu0 : ¬ unitB num den = true
  · rw [if_neg (fun h => hu0 h.1)]
    exact Evt.const (fun f => rfl)
  have hu : unitB num den = true := Classical.byContradiction hu0
  rw [if_pos ⟨hu, by omega, by omega, by omega, by omega⟩]
  obtain ⟨f1, f2, f3, f4, f5⟩ := unit_facts hu
  obtain ⟨a, rfl⟩ := Int.eq_ofNat_of_zero_le f3
  obtain ⟨b, hb⟩ := Int.eq_ofNat_of_zero_le (show 0 ≤ den - (a : Int) by omega)
  obtain rfl : den = ((a + b : Nat) : Int) := by omega
  obtain ⟨n, rfl⟩ := Int.eq_ofNat_of_zero_le (show 0 ≤ n by omega)
  obtain ⟨k, rfl⟩ : ∃ j : Nat, k = ((j + 1 : Nat) : Int) := ⟨(k - 1).toNat, by omega⟩
  have hsub : (((a + b : Nat) : Int) - (a : Int)).toNat = b := by omega
  rw [hsub]
  simp only [Int.toNat_natCast]
  have hab : 0 < a + b := by omega
  by_cases hbig : 1000000000000000000 ≤ (a + b) ^ n
  · have e : confV a b n (k + 1) = (0, 0, 6) := by unfold confV; rw [if_pos hbig]
    rw [e]
    exact Evt.const (fun f => rfl)
  have hwp : 0 < (a + b) ^ n := Nat.pow_pos hab
  have hc : ∀ j, confV a b n j = newV (tailV a b n j) ((a + b) ^ n) := fun j => by unfold confV; rw [if_neg hbig]
  have hc2 : confV b a n (n - k) = newV ((a + b) ^ n - tailV a b n (k + 1)) ((a + b) ^ n) := by
    unfold confV
    rw [Nat.add_comm b a, if_neg hbig, ← tails a b n (k + 1) (by omega)]
    congr 2
    omega
  have hle1 : tailV a b n (k + 1) ≤ (a + b) ^ n := tail_le a b n (k + 1) (n + 1) (Nat.le_refl _)
  obtain ⟨x, y, hxy, hcomp, hx, hy0, hyW⟩ := new_compl (tailV a b n (k + 1)) ((a + b) ^ n) hle1 hwp
  obtain ⟨x', y', g', hxy', e1', e2', hg', hy0'⟩ := new_parts (tailV a b n k) ((a + b) ^ n) hwp
  obtain ⟨x2, y2, g2, hxy2, e12, e22, hg2, hy02⟩ := new_parts (tailV a b n (k + 1)) ((a + b) ^ n) hwp
  obtain ⟨q1, q2⟩ : (x2 : Int) = x ∧ (y2 : Int) = y := by
    rw [hxy2] at hxy
    simp only [Prod.mk.injEq] at hxy
    exact ⟨hxy.1, hxy.2.1⟩
  obtain rfl : x2 = x := by omega
  obtain rfl : y2 = y := by omega
  have hconf : confV a b n (k + 1) = ((x2 : Int), (y2 : Int), 0) := by rw [hc, hxy]
  have hconf' : confV a b n k = ((x' : Int), (y' : Int), 0) := by rw [hc, hxy']
  have hone : confV a b n 0 = (1, 1, 0) := by
    rw [hc]
    unfold tailV
    rw [total, new_self _ hwp]
  have hval : validB (x2 : Int) (y2 : Int) = true := by
    rcases conf_valid a b n (k + 1) hab with h | ⟨p, q, h, hv⟩
    · rw [hconf] at h; simp at h
    · rw [hconf] at h; simp only [Prod.mk.injEq] at h; rw [h.1, h.2.1]; exact hv
  have hval' : validB (x' : Int) (y' : Int) = true := by
    rcases conf_valid a b n k hab with h | ⟨p, q, h, hv⟩
    · rw [hconf'] at h; simp at h
    · rw [hconf'] at h; simp only [Prod.mk.injEq] at h; rw [h.1, h.2.1]; exact hv
  have hbu : unitB (b : Int) ((a + b : Nat) : Int) = true ∧ newV b (a + b) = ((b : Int), ((a + b : Nat) : Int), 0) := by
    have hg : Nat.gcd b (a + b) = 1 := by
      have h5 : Nat.gcd a (a + b) = 1 := by simpa only [Int.toNat_natCast] using f5
      have s1 : Nat.gcd a (a + b) = Nat.gcd a b := by simp
      have s2 : Nat.gcd b (a + b) = Nat.gcd b a := by simp
      rw [s2, Nat.gcd_comm, ← s1, h5]
    constructor
    · unfold unitB validB
      simp only [Int.natAbs_natCast, hg]
      rw [decide_eq_true (by omega), decide_eq_true (by omega), decide_eq_true (by omega), decide_eq_true (by omega), decide_eq_true (by omega), decide_eq_true (by omega)]
      rfl
    · unfold newV
      rw [hg, Nat.div_one, Nat.div_one]
  rw [hconf]
  simp only [if_true]
  have c0 := sconfidence_ev (a : Int) ((a + b : Nat) : Int) (n : Int) 0
  rw [if_pos ⟨hu, by omega, by omega, by omega, by omega⟩, hsub] at c0
  simp only [Int.toNat_natCast, Int.toNat_zero, hone] at c0
  refine Evt.bind c0 ?_
  have c1 := sconfidence_ev (a : Int) ((a + b : Nat) : Int) (n : Int) (k : Int)
  rw [if_pos ⟨hu, by omega, by omega, by omega, by omega⟩, hsub] at c1
  simp only [Int.toNat_natCast, hconf'] at c1
  rw [wrap_mid (((k + 1 : Nat) : Int) - 1) (by omega) (by omega), show ((k + 1 : Nat) : Int) - 1 = (k : Int) by omega]
  refine Evt.bind c1 ?_
  rw [wrap_mid (((a + b : Nat) : Int) - (a : Int)) (by omega) (by omega), show ((a + b : Nat) : Int) - (a : Int) = (b : Int) by omega]
  have c2 := new_ev b (a + b) (by omega) hab (by omega)
  rw [hbu.2] at c2
  refine Evt.bind c2 ?_
  have c3 := sconfidence_ev (b : Int) ((a + b : Nat) : Int) (n : Int) ((n - k : Nat) : Int)
  rw [if_pos ⟨hbu.1, by omega, by omega, by omega, by omega⟩, show (((a + b : Nat) : Int) - (b : Int)).toNat = a by omega] at c3
  simp only [Int.toNat_natCast, hc2, hcomp] at c3
  rw [wrap_mid ((n : Int) - ((k + 1 : Nat) : Int)) (by omega) (by omega), wrap_mid _ (by omega) (by omega), show (n : Int) - ((k + 1 : Nat) : Int) + 1 = ((n - k : Nat) : Int) by omega]
  refine Evt.bind c3 ?_
  have hvc : validB ((y2 - x2 : Nat) : Int) (y2 : Int) = true := by
    rcases conf_valid b a n (n - k) (by omega) with h | ⟨p, q, h, hv⟩
    · rw [hc2, hcomp] at h; simp at h
    · rw [hc2, hcomp] at h; simp only [Prod.mk.injEq] at h; rw [h.1, h.2.1]; exact hv
  have c4 : Evt (fun f => fraction_Add.f f (x2 : Int) (y2 : Int) ((y2 - x2 : Nat) : Int) (y2 : Int)) (1, 1, 0) := by
    unfold fraction_Add.f
    refine Evt.bind (valid2_ev _ _ _ _ hval hvc) ?_
    simp only [if_true]
    exact Evt.bind (add_one x2 y2 hx hy0 (by omega)) (Evt.pure _)
  refine Evt.bind c4 ?_
  simp only [if_true]
  have c5 := fcmp_ev x' y' x2 y2 hval' hval
  have hge : x2 * y' ≤ x' * y2 := cross_le hg2 hg' e12 e22 e1' e2' (Nat.mul_le_mul_right _ (tail_mono a b n k (by omega)))
  refine Evt.of_eq (g := fun f => (fraction_Cmp.f f (x' : Int) (y' : Int) (x2 : Int) (y2 : Int)).bind fun t => if t < 0 then gangsawlaw33_SampleBinomial.j1 f (n : Int) ((k + 1 : Nat) : Int) true (a : Int) ((a + b : Nat) : Int) (x2 : Int) (y2 : Int) else gangsawlaw33_SampleBinomial.j1 f (n : Int) ((k + 1 : Nat) : Int) false (a : Int) ((a + b : Nat) : Int) (x2 : Int) (y2 : Int)) ?_ (fun f => rfl)
  refine Evt.bind c5 ?_
  simp only [if_neg (cmp_ge hge)]
  refine Evt.shift ?_
  simp only [gangsawlaw33_SampleBinomial.j1, Bool.false_eq_true, if_false]
  have c6 := sconfidence_ev (a : Int) ((a + b : Nat) : Int) ((n + 1 : Nat) : Int) ((k + 1 : Nat) : Int)
  rw [if_pos ⟨hu, by omega, by omega, by omega, by omega⟩, hsub] at c6
  simp only [Int.toNat_natCast] at c6
  rw [wrap_up n 1000 (by omega) (by omega)]
  refine Evt.bind c6 ?_
  rcases conf_valid a b (n + 1) (k + 1) hab with h | ⟨p, q, h, hv⟩
  · rw [h]
    exact Evt.const (fun f => rfl)
  · have hbig2 : ¬ 1000000000000000000 ≤ (a + b) ^ (n + 1) := by
      intro hb2
      unfold confV at h
      rw [if_pos hb2] at h
      simp at h
    have hwp2 : 0 < (a + b) ^ (n + 1) := Nat.pow_pos hab
    obtain ⟨p2, q2, g3, hpq, e13, e23, hg3, hq0⟩ := new_parts (tailV a b (n + 1) (k + 1)) ((a + b) ^ (n + 1)) hwp2
    have h' : confV a b (n + 1) (k + 1) = ((p2 : Int), (q2 : Int), 0) := by unfold confV; rw [if_neg hbig2, hpq]
    rw [h'] at h
    simp only [Prod.mk.injEq] at h
    obtain rfl : p2 = p := by omega
    obtain rfl : q2 = q := by omega
    rw [h']
    simp only [if_true]
    have c7 := fcmp_ev p2 q2 x2 y2 hv hval
    have hge2 : x2 * q2 ≤ p2 * y2 := by
      refine cross_le hg2 hg3 e12 e22 e13 e23 ?_
      have h5 := tail_next a b n k (by omega)
      rw [Nat.pow_succ]
      calc tailV a b n (k + 1) * ((a + b) ^ n * (a + b)) = ((a + b) * tailV a b n (k + 1)) * (a + b) ^ n := by grind
        _ ≤ tailV a b (n + 1) (k + 1) * (a + b) ^ n := Nat.mul_le_mul_right _ h5
    simp only [if_neg (show ¬ (0 : Int) = 6 by omega)]
    refine Evt.bind c7 ?_
    have := cmp_ge hge2
    exact Evt.const (fun f => by rw [decide_eq_true (by omega)])
end Go.Proofs.Ythkpgjjakdbbfaa.Pure
