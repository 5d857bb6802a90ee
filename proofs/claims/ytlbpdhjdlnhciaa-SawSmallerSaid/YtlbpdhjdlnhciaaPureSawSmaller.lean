/-
  SawSmaller: the plain law.
-/
import Derived.Test.YtlbpdhjdlnhciaaPSaw
import Derived.Test.YtlbpdhjdlnhciaaSymB
set_option linter.unusedVariables false
set_option linter.unusedSimpArgs false
namespace Go.Proofs.Ytlbpdhjdlnhciaa.Pure
open Go.RowKit Go.Proofs.YtlbpdhjdlnhciaaW.PrintWords Go.Proofs.YtlbpdhjdlnhciaaW.PrintLast Go.Proofs.Ytlbpdhjdlnhciaa.Awk Go.Proofs.Ytlbpdhjdlnhciaa.P Go.Proofs.Ytlbpdhjdlnhciaa.Rnd Go.Proofs.Ytlbpdhjdlnhciaa.Open Go.Proofs.Ytlbpdhjdlnhciaa.Ks Go.Proofs.Ytlbpdhjdlnhciaa.PSaw Go.Proofs.Ytlbpdhjdlnhciaa.Sym Go.Proofs.Ytlbpdhjdlnhciaa.SymB
theorem mn_le {a b a' b' x : Int} (ha : a' ≤ a) (hb : b' ≤ b) (h : ¬ mn a b > x) : ¬ mn a' b' > x := by
  unfold mn at *
  split at h <;> split <;> omega
/-- what is taken from a side -/
theorem less_mod (d lo hi : Int) (h0 : 1 ≤ hi - lo) (h1 : hi - lo ≤ 2000000) : ∃ m, Int.tmod (IntKind.u64.wrap d) (IntKind.u64.wrap (hi - lo)) = m ∧ 0 ≤ m ∧ m < hi - lo := by
  have e : IntKind.u64.wrap (hi - lo) = hi - lo := by
    unfold IntKind.wrap
    simp [IntKind.bits, IntKind.signed]
    omega
  have h2 : 0 ≤ IntKind.u64.wrap d := by
    unfold IntKind.wrap
    simp [IntKind.bits, IntKind.signed]
    omega
  refine ⟨_, rfl, ?_⟩
  rw [e]
  exact ⟨Int.tmod_nonneg _ h2, Int.tmod_lt_of_pos _ (by omega)⟩
theorem side_nz (lo hi : Int) (h0 : 1 ≤ hi - lo) (h1 : hi - lo ≤ 2000000) : ¬ IntKind.u64.wrap (hi - lo) = 0 := by
  unfold IntKind.wrap
  simp [IntKind.bits, IntKind.signed]
  omega
/-- A smaller box can be cut where the larger can, unless the saw is a frame saw. -/
theorem can_small (s0 : ByteArray) (s1 s2 s3 s4 s5 s6 s7 a b c d e f d' e' f' x k : Int) (h3 : ¬ s1 = 3)
    (hd : wrap64 (d' - a) ≤ wrap64 (d - a)) (he : wrap64 (e' - b) ≤ wrap64 (e - b)) (hf : wrap64 (f' - c) ≤ wrap64 (f - c))
    (h : saw_can.f s0 s1 s2 s3 s4 s5 s6 s7 a b c d e f x k = some 0) : saw_can.f s0 s1 s2 s3 s4 s5 s6 s7 a b c d' e' f' x k = some 0 := by
  unfold saw_can.f at h ⊢
  simp only [sort3_eq] at h ⊢
  have go : ∀ {m m' : Int}, (¬ m > s5 → ¬ m' > s5) → ∀ {q q' : Bool}, ∀ (w w' : Int),
      (if s6 = k then (if min (wrap64 (d - a)) (min (wrap64 (e - b)) (wrap64 (f - c))) > min s2 (min s3 s4) then some (6 : Int) else (if max (min (wrap64 (d - a)) (wrap64 (e - b))) (min (max (wrap64 (d - a)) (wrap64 (e - b))) (wrap64 (f - c))) > max (min s2 s3) (min (max s2 s3) s4) then some 6 else (if max (wrap64 (d - a)) (max (wrap64 (e - b)) (wrap64 (f - c))) > max s2 (max s3 s4) then some 6 else (if m > s5 then some 12 else (if s1 = 3 then (if w = max (wrap64 (d - a)) (max (wrap64 (e - b)) (wrap64 (f - c))) then (if max (wrap64 (d - a)) (max (wrap64 (e - b)) (wrap64 (f - c))) > s5 then some 12 else some 0) else some 0) else some 0))))) else some 10) = some 0 →
      (if s6 = k then (if min (wrap64 (d' - a)) (min (wrap64 (e' - b)) (wrap64 (f' - c))) > min s2 (min s3 s4) then some (6 : Int) else (if max (min (wrap64 (d' - a)) (wrap64 (e' - b))) (min (max (wrap64 (d' - a)) (wrap64 (e' - b))) (wrap64 (f' - c))) > max (min s2 s3) (min (max s2 s3) s4) then some 6 else (if max (wrap64 (d' - a)) (max (wrap64 (e' - b)) (wrap64 (f' - c))) > max s2 (max s3 s4) then some 6 else (if m' > s5 then some 12 else (if s1 = 3 then (if w' = max (wrap64 (d' - a)) (max (wrap64 (e' - b)) (wrap64 (f' - c))) then (if max (wrap64 (d' - a)) (max (wrap64 (e' - b)) (wrap64 (f' - c))) > s5 then some 12 else some 0) else some 0) else some 0))))) else some 10) = some 0 := by
    intro m m' hm q q' w w' h
    generalize wrap64 (d - a) = A at *
    generalize wrap64 (e - b) = B at *
    generalize wrap64 (f - c) = C at *
    generalize wrap64 (d' - a) = A' at *
    generalize wrap64 (e' - b) = B' at *
    generalize wrap64 (f' - c) = C' at *
    by_cases hk : s6 = k
    · rw [if_pos hk] at h ⊢
      by_cases c1 : min A (min B C) > min s2 (min s3 s4)
      · rw [if_pos c1] at h; simp at h
      rw [if_neg c1] at h
      by_cases c2 : max (min A B) (min (max A B) C) > max (min s2 s3) (min (max s2 s3) s4)
      · rw [if_pos c2] at h; simp at h
      rw [if_neg c2] at h
      by_cases c3 : max A (max B C) > max s2 (max s3 s4)
      · rw [if_pos c3] at h; simp at h
      rw [if_neg c3] at h
      by_cases c4 : m > s5
      · rw [if_pos c4] at h; simp at h
      rw [if_neg (by omega), if_neg (by omega), if_neg (by omega), if_neg (hm c4), if_neg h3]
    · rw [if_neg hk] at h; simp at h
  by_cases h0 : x = 0
  · rw [if_pos h0] at h ⊢
    exact go (mn_le he hf) (q := true) (q' := true) _ _ h
  rw [if_neg h0] at h ⊢
  by_cases h1 : x = 1
  · rw [if_pos h1] at h ⊢
    exact go (mn_le hf hd) (q := true) (q' := true) _ _ h
  rw [if_neg h1] at h ⊢
  by_cases h2 : x = 2
  · rw [if_pos h2] at h ⊢
    exact go (mn_le hd he) (q := true) (q' := true) _ _ h
  rw [if_neg h2] at h
  simp at h
theorem mul_bound {p q : Int} (hp : 1 ≤ p ∧ p ≤ 2000000) (hq : 1 ≤ q ∧ q ≤ 2000000) : 1 ≤ p * q ∧ p * q ≤ 4000000000000 := by
  constructor
  · have := Int.mul_le_mul hp.1 hq.1 (by omega) (by omega); omega
  · have := Int.mul_le_mul hp.2 hq.2 (by omega) (by omega); omega
/-- The area of a cut, and of a smaller box's. -/
theorem area_small (a b c d e f d' e' f' x : Int) (h : boxOk a b c d e f x 0) (hd : a < d' ∧ d' ≤ d) (he : b < e' ∧ e' ≤ e) (hf : c < f' ∧ f' ≤ f) :
    ∃ A A', saw_area.f a b c d e f x = some A ∧ saw_area.f a b c d' e' f' x = some A' ∧ 1 ≤ A' ∧ A' ≤ A ∧ A ≤ 4000000000000 := by
  have go : ∀ p q p' q' : Int, 1 ≤ p' ∧ p' ≤ p ∧ p ≤ 2000000 → 1 ≤ q' ∧ q' ≤ q ∧ q ≤ 2000000 → ∃ A A', (some (wrap64 (p * q)) : Option Int) = some A ∧ (some (wrap64 (p' * q')) : Option Int) = some A' ∧ 1 ≤ A' ∧ A' ≤ A ∧ A ≤ 4000000000000 := by
    intro p q p' q' hp hq
    have b1 := mul_bound (p := p) (q := q) (by omega) (by omega)
    have b2 := mul_bound (p := p') (q := q') (by omega) (by omega)
    have b3 : p' * q' ≤ p * q := Int.mul_le_mul hp.2.1 hq.2.1 (by omega) (by omega)
    refine ⟨p * q, p' * q', by rw [wrap_mid _ (by omega) (by omega)], by rw [wrap_mid _ (by omega) (by omega)], b2.1, b3, b1.2⟩
  unfold boxOk at h
  unfold saw_area.f
  rw [wrap_mid (d - a) (by omega) (by omega), wrap_mid (e - b) (by omega) (by omega), wrap_mid (f - c) (by omega) (by omega), wrap_mid (d' - a) (by omega) (by omega), wrap_mid (e' - b) (by omega) (by omega), wrap_mid (f' - c) (by omega) (by omega)]
  by_cases h0 : x = 0
  · rw [if_pos h0, if_pos h0]; exact go _ _ _ _ (by omega) (by omega)
  rw [if_neg h0, if_neg h0]
  by_cases h1 : x = 1
  · rw [if_pos h1, if_pos h1]; exact go _ _ _ _ (by omega) (by omega)
  rw [if_neg h1, if_neg h1, if_pos (by omega), if_pos (by omega)]
  exact go _ _ _ _ (by omega) (by omega)
theorem minute_val (s : Sw) (a : Int) (ha : 1 ≤ a ∧ a ≤ 4000000000000) (hs : 1 ≤ s.f5 ∧ s.f5 ≤ 1000000000) : minuteV s a = (a + s.f5 - 1) / s.f5 := by
  unfold minuteV
  rw [wrap_mid (a + s.f5) (by omega) (by omega), wrap_mid (a + s.f5 - 1) (by omega) (by omega), Int.tdiv_eq_ediv_of_nonneg (by omega)]
  have h1 : 0 ≤ (a + s.f5 - 1) / s.f5 := Int.ediv_nonneg (by omega) (by omega)
  have h2 : (a + s.f5 - 1) / s.f5 ≤ a + s.f5 - 1 := Int.ediv_le_self _ (by omega)
  rw [wrap_mid _ (by omega) (by omega)]
/-- minutes as the least count that covers -/
theorem minute_le (n p m : Int) (hp : 1 ≤ p) : (n + p - 1) / p ≤ m ↔ n ≤ m * p := by
  rw [show (n + p - 1) / p ≤ m ↔ (n + p - 1) / p < m + 1 by omega, Int.ediv_lt_iff_lt_mul (by omega), Int.add_mul, Int.one_mul]
  omega
theorem checkS_one (s : Sw) : checkS [s] = 0 ↔ badNm s = false ∧ badKd s = false ∧ badSz s = false := by
  unfold checkS
  simp only [List.any_cons, List.any_nil, Bool.or_false]
  cases badNm s <;> cases badKd s <;> cases badSz s <;> simp
theorem small_vals (s : Sw) (a b c d e f d' e' f' x : Int) (hb : boxOk a b c d e f x 0) (hd : a < d' ∧ d' ≤ d) (he : b < e' ∧ e' ≤ e) (hf : c < f' ∧ f' ≤ f) (hs : checkS [s] = 0) :
    ∃ A A' p' M M' F, saw_Area.f a b c d e f x = some (A, 0) ∧ saw_Area.f a b c d' e' f' x = some (A', 0) ∧ mn (wrap64 (2 * s.f5)) 1000000000 = p' ∧
      saw_Minutes.f s.f0 s.f1 s.f2.f0 s.f2.f1 s.f2.f2 s.f3 s.f4 s.f5 A = some (M, 0) ∧ saw_Minutes.f s.f0 s.f1 s.f2.f0 s.f2.f1 s.f2.f2 s.f3 s.f4 s.f5 A' = some (M', 0) ∧
      saw_Minutes.f s.f0 s.f1 s.f2.f0 s.f2.f1 s.f2.f2 s.f3 s.f4 p' A = some (F, 0) ∧ A' ≤ A ∧ M' ≤ M ∧ F ≤ M ∧ F ≥ 1 := by
  obtain ⟨A, A', hA, hA', h1, h2, h3⟩ := area_small a b c d e f d' e' f' x hb hd he hf
  have hb' : boxOk a b c d' e' f' x 0 := by unfold boxOk at hb ⊢; omega
  have hsz := badSz_false (one_ok hs).2
  obtain ⟨p', hp'⟩ : ∃ p', mn (wrap64 (2 * s.f5)) 1000000000 = p' := ⟨_, rfl⟩
  have hpr : s.f5 ≤ p' ∧ p' ≤ 1000000000 := by
    rw [← hp', wrap_mid _ (by omega) (by omega)]; unfold mn; split <;> omega
  have hs' : checkS [(⟨s.f0, s.f1, s.f2, s.f3, s.f4, p'⟩ : Sw)] = 0 := by
    rw [checkS_one] at hs ⊢
    refine ⟨hs.1, hs.2.1, ?_⟩
    unfold badSz inS lastOk
    simp
    omega
  have e1 : saw_Area.f a b c d e f x = some (A, 0) := by unfold saw_Area.f; rw [boxed_f, if_pos hb, Option.bind_some, if_pos rfl, hA]; rfl
  have e2 : saw_Area.f a b c d' e' f' x = some (A', 0) := by unfold saw_Area.f; rw [boxed_f, if_pos hb', Option.bind_some, if_pos rfl, hA']; rfl
  have m1 : saw_Minutes.f s.f0 s.f1 s.f2.f0 s.f2.f1 s.f2.f2 s.f3 s.f4 s.f5 A = some (minuteV s A, 0) := by
    rw [Minutes_f]; unfold minutesV; rw [if_pos hs, if_neg (by omega), if_neg (by omega)]
  have m2 : saw_Minutes.f s.f0 s.f1 s.f2.f0 s.f2.f1 s.f2.f2 s.f3 s.f4 s.f5 A' = some (minuteV s A', 0) := by
    rw [Minutes_f]; unfold minutesV; rw [if_pos hs, if_neg (by omega), if_neg (by omega)]
  have m3 : saw_Minutes.f s.f0 s.f1 s.f2.f0 s.f2.f1 s.f2.f2 s.f3 s.f4 p' A = some (minuteV (⟨s.f0, s.f1, s.f2, s.f3, s.f4, p'⟩ : Sw) A, 0) := by
    have h := Minutes_f (⟨s.f0, s.f1, s.f2, s.f3, s.f4, p'⟩ : Sw) A
    unfold minutesV at h
    rw [if_pos hs', if_neg (by omega), if_neg (by omega)] at h
    exact h
  have v1 := minute_val s A (by omega) (by omega)
  have v2 := minute_val s A' (by omega) (by omega)
  have v3 := minute_val (⟨s.f0, s.f1, s.f2, s.f3, s.f4, p'⟩ : Sw) A (by omega) (by show 1 ≤ p' ∧ p' ≤ 1000000000; omega)
  have c1 : minuteV s A' ≤ minuteV s A := by
    rw [v1, v2]; exact Int.ediv_le_ediv (by omega) (by omega)
  have hA1 : A ≤ minuteV s A * s.f5 := (minute_le A s.f5 (minuteV s A) (by omega)).1 (by rw [v1]; exact Int.le_refl _)
  have hm0 : 0 ≤ minuteV s A := by rw [v1]; exact Int.ediv_nonneg (by omega) (by omega)
  have c2 : minuteV (⟨s.f0, s.f1, s.f2, s.f3, s.f4, p'⟩ : Sw) A ≤ minuteV s A := by
    rw [v3]
    refine (minute_le A p' (minuteV s A) (by omega)).2 ?_
    have := Int.mul_le_mul_of_nonneg_left hpr.1 hm0
    omega
  have c3 : minuteV (⟨s.f0, s.f1, s.f2, s.f3, s.f4, p'⟩ : Sw) A ≥ 1 := by
    rw [v3]
    show 1 ≤ (A + p' - 1) / p'
    rw [Int.le_ediv_iff_mul_le (by omega)]; omega
  exact ⟨A, A', p', minuteV s A, minuteV s A', _, e1, e2, hp', m1, m2, m3, h2, c1, c2, c3⟩
theorem SawSmaller : ∀ (x0 : S37) (x1 : S30) (x2 : Int) (x3 : Int) (x4 : S28), G37 x0 → G30 x1 → (GInt .i64) x2 → (GInt .i64) x3 → G28 x4 → gangsawlaw29_SawSmaller.f x0.f0 x0.f1 x0.f2.f0 x0.f2.f1 x0.f2.f2 x0.f3 x0.f4 x0.f5 x1.f0.f0 x1.f0.f1 x1.f0.f2 x1.f1.f0 x1.f1.f1 x1.f1.f2 x2 x3 x4.f0 x4.f1 x4.f2 = some true := by
  intro s w x k0 z hs hw hx hk hz
  generalize w.f0.f0 = a
  generalize w.f0.f1 = b
  generalize w.f0.f2 = c
  generalize w.f1.f0 = d
  generalize w.f1.f1 = e
  generalize w.f1.f2 = f
  generalize z.f0 = zd
  generalize z.f1 = ze
  generalize z.f2 = zf
  unfold gangsawlaw29_SawSmaller.f
  rw [show gangsawlaw29_awake.f = some true from rfl, Option.bind_some, if_pos rfl]
  refine ite_step (fun _ => rfl) (fun _ => ?_)
  rw [rcut_f, Option.bind_some]
  by_cases hbx' : ¬ boxOk a b c d e f x k0
  · rw [if_neg hbx', if_neg (by decide)]
  have hbx : boxOk a b c d e f x k0 := Classical.not_not.1 hbx'
  rw [if_pos hbx, if_pos rfl]
  obtain ⟨v, hv, _⟩ := Cans_ev s a b c d e f x k0 hs.1
  rw [hv, Option.bind_some]
  refine ite_step (fun hv0 => ?_) (fun _ => rfl)
  subst hv0
  have hcs : checkS [s] = 0 := by
    by_cases h : checkS [s] = 0
    · exact h
    · unfold saw_Can.f at hv
      rw [show ([⟨s.f0, s.f1, ⟨s.f2.f0, s.f2.f1, s.f2.f2⟩, s.f3, s.f4, s.f5⟩] : List Sw) = [s] from rfl, check_f, Option.bind_some, if_neg h] at hv
      exact Option.some.inj hv
  have hcan : saw_can.f s.f0 s.f1 s.f2.f0 s.f2.f1 s.f2.f2 s.f3 s.f4 s.f5 a b c d e f x k0 = some 0 := by
    unfold saw_Can.f at hv
    rw [show ([⟨s.f0, s.f1, ⟨s.f2.f0, s.f2.f1, s.f2.f2⟩, s.f3, s.f4, s.f5⟩] : List Sw) = [s] from rfl, check_f, Option.bind_some, if_pos hcs, cut_f, Option.bind_some, if_pos hbx, if_pos rfl] at hv
    simpa using hv
  have hb0 : boxOk a b c d e f x 0 := by unfold boxOk at hbx ⊢; omega
  have hR := hbx
  unfold boxOk at hR
  obtain ⟨m1, q1, g1⟩ := less_mod zd a d (by omega) (by omega)
  obtain ⟨m2, q2, g2⟩ := less_mod ze b e (by omega) (by omega)
  obtain ⟨m3, q3, g3⟩ := less_mod zf c f (by omega) (by omega)
  have w1 : wrap64 (d - a) = d - a := wrap_mid _ (by omega) (by omega)
  have w2 : wrap64 (e - b) = e - b := wrap_mid _ (by omega) (by omega)
  have w3 : wrap64 (f - c) = f - c := wrap_mid _ (by omega) (by omega)
  have u1 : wrap64 (d - wrap64 m1) = d - m1 := by rw [wrap_mid m1 (by omega) (by omega), wrap_mid _ (by omega) (by omega)]
  have u2 : wrap64 (e - wrap64 m2) = e - m2 := by rw [wrap_mid m2 (by omega) (by omega), wrap_mid _ (by omega) (by omega)]
  have u3 : wrap64 (f - wrap64 m3) = f - m3 := by rw [wrap_mid m3 (by omega) (by omega), wrap_mid _ (by omega) (by omega)]
  obtain ⟨A, A', p', M, M', F, e1, e2, hp', n1, n2, n3, l1, l2, l3, l4⟩ := small_vals s a b c d e f (d - m1) (e - m2) (f - m3) x hb0 (by omega) (by omega) (by omega) hcs
  simp only [w1, w2, w3, q1, q2, q3, u1, u2, u3]
  rw [if_neg (side_nz a d (by omega) (by omega)), if_neg (side_nz b e (by omega) (by omega)), if_neg (side_nz c f (by omega) (by omega))]
  by_cases h3 : s.f1 = 3
  · rw [if_pos h3]
    simp only [e1, e2, Option.bind_some, n1, n2, hp', n3, if_true]
    rw [if_pos l1, if_pos l2, if_pos l3, if_pos l4]
  · rw [if_neg h3]
    have hbs : boxOk a b c (d - m1) (e - m2) (f - m3) x k0 := by unfold boxOk; omega
    have hcan2 := can_small s.f0 s.f1 s.f2.f0 s.f2.f1 s.f2.f2 s.f3 s.f4 s.f5 a b c d e f (d - m1) (e - m2) (f - m3) x k0 h3 (by rw [w1, wrap_mid _ (by omega) (by omega)]; omega) (by rw [w2, wrap_mid _ (by omega) (by omega)]; omega) (by rw [w3, wrap_mid _ (by omega) (by omega)]; omega) hcan
    have hC : saw_Can.f s.f0 s.f1 s.f2.f0 s.f2.f1 s.f2.f2 s.f3 s.f4 s.f5 a b c (d - m1) (e - m2) (f - m3) x k0 = some 0 := by
      unfold saw_Can.f
      rw [show ([⟨s.f0, s.f1, ⟨s.f2.f0, s.f2.f1, s.f2.f2⟩, s.f3, s.f4, s.f5⟩] : List Sw) = [s] from rfl, check_f, Option.bind_some, if_pos hcs, cut_f, Option.bind_some, if_pos hbs, if_pos rfl, hcan2]; rfl
    rw [hC, Option.bind_some, if_pos rfl]
    simp only [e1, e2, Option.bind_some, n1, n2, hp', n3, if_true]
    rw [if_pos l1, if_pos l2, if_pos l3, if_pos l4]
end Go.Proofs.Ytlbpdhjdlnhciaa.Pure
