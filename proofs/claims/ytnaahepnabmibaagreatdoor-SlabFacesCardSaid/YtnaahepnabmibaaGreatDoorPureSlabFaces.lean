/-
  SlabFaces: the plain law.
-/
import Derived.Test.YtnaahepnabmibaaGreatDoorKs
import Derived.Test.YtnaahepnabmibaaGreatDoorEvt
import Derived.Test.YtnaahepnabmibaaGreatDoorSort
import Derived.Test.YtnaahepnabmibaaGreatDoorSym
import Derived.Test.YtnaahepnabmibaaGreatDoorTurn
import Derived.Test.YtnaahepnabmibaaGreatDoorClone
import Derived.Test.YtnaahepnabmibaaGreatDoorM1
import Derived.Test.YtnaahepnabmibaaGreatDoorPx8
set_option linter.unusedVariables false
set_option linter.unusedSimpArgs false
namespace Go.Proofs.YtnaahepnabmibaaGreatDoor.Pure
open Go.RowKit Go.Proofs.YtnaahepnabmibaaGreatDoorW.PrintWords Go.Proofs.YtnaahepnabmibaaGreatDoorW.PrintLast Go.Proofs.YtnaahepnabmibaaGreatDoor.P Go.Proofs.YtnaahepnabmibaaGreatDoor.Open Go.Proofs.YtnaahepnabmibaaGreatDoor.Ks Go.Proofs.YtnaahepnabmibaaGreatDoor.Rnd Go.Proofs.YtnaahepnabmibaaGreatDoor.Awk Go.Proofs.YtnaahepnabmibaaGreatDoor.Sort Go.Proofs.YtnaahepnabmibaaGreatDoor.Sym Go.Proofs.YtnaahepnabmibaaGreatDoor.Turn Go.Proofs.YtnaahepnabmibaaGreatDoor.Clone
theorem ite_step {α : Type} {c : Prop} [Decidable c] {x y v : α} (h1 : c → x = v) (h2 : ¬ c → y = v) : ite c x y = v := by
  by_cases h : c
  · rw [if_pos h]; exact h1 h
  · rw [if_neg h]; exact h2 h
theorem mx_max (a b : Int) : mx a b = max a b := by
  unfold mx
  exact ite_step (fun _ => by omega) (fun _ => by omega)
def okR (a b c d e f : Int) : Prop := (-1000000 ≤ a ∧ a ≤ 1000000) ∧ (-1000000 ≤ b ∧ b ≤ 1000000) ∧ (-1000000 ≤ c ∧ c ≤ 1000000) ∧ (-1000000 ≤ d ∧ d ≤ 1000000) ∧ (-1000000 ≤ e ∧ e ≤ 1000000) ∧ (-1000000 ≤ f ∧ f ≤ 1000000)
instance (a b c d e f : Int) : Decidable (okR a b c d e f) := by unfold okR; infer_instance
def checkB (a b c d e f : Int) : Int := if okR a b c d e f then (if a ≥ d then 1 else if b ≥ e then 1 else if c ≥ f then 1 else 0) else 6
theorem box_f (a b c d e f : Int) : box_Check.f a b c d e f = some (checkB a b c d e f) := by
  unfold box_Check.f checkB
  by_cases h : okR a b c d e f
  · rw [if_pos h]
    unfold okR at h
    rw [if_pos (by omega), if_pos (by omega), if_pos (by omega), if_pos (by omega), if_pos (by omega), if_pos (by omega), if_pos (by omega), if_pos (by omega), if_pos (by omega), if_pos (by omega), if_pos (by omega), if_pos (by omega)]
    by_cases h1 : a ≥ d
    · rw [if_pos h1, if_pos h1]
    rw [if_neg h1, if_neg h1]
    by_cases h2 : b ≥ e
    · rw [if_pos h2, if_pos h2]
    rw [if_neg h2, if_neg h2]
    by_cases h3 : c ≥ f
    · rw [if_pos h3, if_pos h3]
    rw [if_neg h3, if_neg h3]
  · rw [if_neg h]
    unfold okR at h
    repeat' (refine ite_step (fun _ => ?_) (fun _ => ?_))
    all_goals first | rfl | (exfalso; omega)
theorem rbox_ev (a b c d e f : Int) : Evt (fun k => gangsawref06_Check.f k a b c d e f) (checkB a b c d e f) := by
  unfold gangsawref06_Check.f checkB
  have w1 : wrap64 ((0 : Int) + 1) = 1 := wrap_mid 1 (by decide) (by decide)
  have w2 : wrap64 ((1 : Int) + 1) = 2 := wrap_mid 2 (by decide) (by decide)
  have w3 : wrap64 ((2 : Int) + 1) = 3 := wrap_mid 3 (by decide) (by decide)
  have s3 : Evt (fun k => gangsawref06_Check.l1 k 3 a b c d e f) 0 := Evt.succ (g := fun _ => some 0) (Evt.pure _) (fun k => by simp only [gangsawref06_Check.l1]; rw [if_neg (by decide)])
  have s2 : Evt (fun k => gangsawref06_Check.l1 k 2 a b c d e f) (if c ≥ f then 1 else 0) := by
    by_cases h : c ≥ f
    · rw [if_pos h]; exact Evt.succ (g := fun _ => some 1) (Evt.pure _) (fun k => by simp only [gangsawref06_Check.l1]; rw [if_pos (by decide)]; show (if c ≥ f then _ else _) = _; rw [if_pos h])
    · rw [if_neg h]; exact Evt.succ s3 (fun k => by simp only [gangsawref06_Check.l1, w3]; rw [if_pos (by decide)]; show (if c ≥ f then _ else _) = _; rw [if_neg h])
  have s1 : Evt (fun k => gangsawref06_Check.l1 k 1 a b c d e f) (if b ≥ e then 1 else if c ≥ f then 1 else 0) := by
    by_cases h : b ≥ e
    · rw [if_pos h]; exact Evt.succ (g := fun _ => some 1) (Evt.pure _) (fun k => by simp only [gangsawref06_Check.l1]; rw [if_pos (by decide)]; show (if b ≥ e then _ else _) = _; rw [if_pos h])
    · rw [if_neg h]; exact Evt.succ s2 (fun k => by simp only [gangsawref06_Check.l1, w2]; rw [if_pos (by decide)]; show (if b ≥ e then _ else _) = _; rw [if_neg h])
  have s0 : Evt (fun k => gangsawref06_Check.l1 k 0 a b c d e f) (if a ≥ d then 1 else if b ≥ e then 1 else if c ≥ f then 1 else 0) := by
    by_cases h : a ≥ d
    · rw [if_pos h]; exact Evt.succ (g := fun _ => some 1) (Evt.pure _) (fun k => by simp only [gangsawref06_Check.l1]; rw [if_pos (by decide)]; show (if a ≥ d then _ else _) = _; rw [if_pos h])
    · rw [if_neg h]; exact Evt.succ s1 (fun k => by simp only [gangsawref06_Check.l1, w1]; rw [if_pos (by decide)]; show (if a ≥ d then _ else _) = _; rw [if_neg h])
  generalize (if a ≥ d then (1 : Int) else if b ≥ e then 1 else if c ≥ f then 1 else 0) = V at s0
  -- one round of the first loop
  have round : ∀ (i j : Int) (p q : Int) (v : Int), i < 3 → wrap64 (i + 1) = j → gangsawref06_At.f a b c i = some p → gangsawref06_At.f d e f i = some q → Evt (fun k => gangsawref06_Check.l0 k j a b c d e f) v →
      Evt (fun k => gangsawref06_Check.l0 k i a b c d e f) (if (-1000000 ≤ p ∧ p ≤ 1000000) ∧ (-1000000 ≤ q ∧ q ≤ 1000000) then v else 6) := by
    intro i j p q v hi hj hp hq hv
    by_cases h : (-1000000 ≤ p ∧ p ≤ 1000000) ∧ (-1000000 ≤ q ∧ q ≤ 1000000)
    · rw [if_pos h]
      refine Evt.succ hv (fun k => ?_)
      simp only [gangsawref06_Check.l0, hp, hq, Option.bind_some, hj]
      rw [if_pos hi, if_neg (by omega), if_neg (by omega), if_neg (by omega), if_neg (by omega)]
    · rw [if_neg h]
      refine Evt.succ (g := fun _ => some 6) (Evt.pure _) (fun k => ?_)
      simp only [gangsawref06_Check.l0, hp, hq, Option.bind_some]
      rw [if_pos hi]
      refine ite_step (fun _ => rfl) (fun h1 => ?_)
      refine ite_step (fun _ => rfl) (fun h2 => ?_)
      refine ite_step (fun _ => rfl) (fun h3 => ?_)
      refine ite_step (fun _ => rfl) (fun h4 => ?_)
      exfalso; omega
  have t3 : Evt (fun k => gangsawref06_Check.l0 k 3 a b c d e f) V := Evt.succ s0 (fun k => by simp only [gangsawref06_Check.l0]; rw [if_neg (by decide)])
  have t2 := round 2 3 c f V (by decide) w3 rfl rfl t3
  have t1 := round 1 2 b e _ (by decide) w2 rfl rfl t2
  have t0 := round 0 1 a d _ (by decide) w1 rfl rfl t1
  have e : (if (-1000000 ≤ a ∧ a ≤ 1000000) ∧ (-1000000 ≤ d ∧ d ≤ 1000000) then (if (-1000000 ≤ b ∧ b ≤ 1000000) ∧ (-1000000 ≤ e ∧ e ≤ 1000000) then (if (-1000000 ≤ c ∧ c ≤ 1000000) ∧ (-1000000 ≤ f ∧ f ≤ 1000000) then V else 6) else 6) else 6) = (if okR a b c d e f then V else 6) := by
    by_cases h : okR a b c d e f
    · rw [if_pos h]; unfold okR at h; rw [if_pos (by omega), if_pos (by omega), if_pos (by omega)]
    · rw [if_neg h]; unfold okR at h
      refine ite_step (fun _ => ?_) (fun _ => rfl)
      refine ite_step (fun _ => ?_) (fun _ => rfl)
      refine ite_step (fun _ => ?_) (fun _ => rfl)
      exfalso; omega
  rw [e] at t0
  exact t0
theorem sort_three (x y z : Int) : sortInt [x, y, z] = if x ≤ y then (if y ≤ z then [x, y, z] else if x ≤ z then [x, z, y] else [z, x, y]) else (if x ≤ z then [y, x, z] else if y ≤ z then [y, z, x] else [z, y, x]) := by
  unfold sortInt isort
  by_cases h1 : x ≤ y <;> by_cases h2 : y ≤ z <;> by_cases h3 : x ≤ z <;> simp [isort, insL, h1, h2, h3] <;> omega
theorem area_ev (n0 n1 : ByteArray) (m a b c d e f g : Int) (l1 l2 : List Int) : ∃ v, slab_Area.f n0 n1 m a b c d e f g l1 l2 = some v ∧ Evt (fun k => gangsawref30_Area.f k n0 n1 m a b c d e f g l1 l2) v := by
  by_cases h : checkB a b c d e f = 0
  · have hb : okR a b c d e f ∧ a < d ∧ b < e ∧ c < f := by
      unfold checkB at h
      by_cases h0 : okR a b c d e f
      · rw [if_pos h0] at h
        by_cases h1 : a ≥ d
        · rw [if_pos h1] at h; omega
        rw [if_neg h1] at h
        by_cases h2 : b ≥ e
        · rw [if_pos h2] at h; omega
        rw [if_neg h2] at h
        by_cases h3 : c ≥ f
        · rw [if_pos h3] at h; omega
        exact ⟨h0, by omega, by omega, by omega⟩
      · rw [if_neg h0] at h; omega
    obtain ⟨hr, hx, hy, hz⟩ := hb
    unfold okR at hr
    obtain ⟨x, ex⟩ : ∃ x, d - a = x := ⟨_, rfl⟩
    obtain ⟨y, ey⟩ : ∃ y, e - b = y := ⟨_, rfl⟩
    obtain ⟨z, ez⟩ : ∃ z, f - c = z := ⟨_, rfl⟩
    have bx : 0 ≤ x ∧ x ≤ 2000000 := by omega
    have by' : 0 ≤ y ∧ y ≤ 2000000 := by omega
    have bz : 0 ≤ z ∧ z ≤ 2000000 := by omega
    have wx : wrap64 (d - a) = x := by rw [wrap_mid _ (by omega) (by omega), ex]
    have wy : wrap64 (e - b) = y := by rw [wrap_mid _ (by omega) (by omega), ey]
    have wz : wrap64 (f - c) = z := by rw [wrap_mid _ (by omega) (by omega), ez]
    have pb : ∀ p q : Int, 0 ≤ p ∧ p ≤ 2000000 → 0 ≤ q ∧ q ≤ 2000000 → 0 ≤ p * q ∧ p * q ≤ 4000000000000 := fun p q hp hq =>
      ⟨Int.mul_nonneg hp.1 hq.1, by have := Int.mul_le_mul hp.2 hq.2 hq.1 (by omega); omega⟩
    have P := pb x y bx by'
    have Q := pb y z by' bz
    have R := pb x z bx bz
    have c1 : y * x = x * y := Int.mul_comm _ _
    have c2 : z * y = y * z := Int.mul_comm _ _
    have c3 : z * x = x * z := Int.mul_comm _ _
    have hxy : x ≤ y → x * z ≤ y * z := fun h => Int.mul_le_mul_of_nonneg_right h bz.1
    have hyx : y ≤ x → y * z ≤ x * z := fun h => Int.mul_le_mul_of_nonneg_right h bz.1
    have hyz : y ≤ z → x * y ≤ x * z := fun h => Int.mul_le_mul_of_nonneg_left h bx.1
    have hzy : z ≤ y → x * z ≤ x * y := fun h => Int.mul_le_mul_of_nonneg_left h bx.1
    have hxz : x ≤ z → y * x ≤ y * z := fun h => Int.mul_le_mul_of_nonneg_left h by'.1
    have hzx : z ≤ x → y * z ≤ y * x := fun h => Int.mul_le_mul_of_nonneg_left h by'.1
    refine ⟨(max (max (x * y) (y * z)) (x * z), 0), ?_, ?_⟩
    · unfold slab_Area.f
      rw [box_f, Option.bind_some, if_pos h]
      unfold box_Size.f slices_Sort_int.f
      simp only [Option.bind_some, wx, wy, wz]
      rw [if_pos (show [x, y, z].length < 4611686018427387904 by simp), Option.bind_some, if_pos (by simp), if_pos (by simp), sort_three]
      have fin : ∀ u v : Int, wrap64 (u * v) = u * v → u * v = max (max (x * y) (y * z)) (x * z) → (some (wrap64 (u * v), (0 : Int)) : Option (Int × Int)) = some (max (max (x * y) (y * z)) (x * z), 0) := fun u v h1 h2 => by rw [h1, h2]
      by_cases k1 : x ≤ y
      · rw [if_pos k1]
        by_cases k2 : y ≤ z
        · rw [if_pos k2]
          exact fin y z (wrap_mid _ (by omega) (by omega)) (by have := hxy k1; have := hxz (by omega); omega)
        rw [if_neg k2]
        by_cases k3 : x ≤ z
        · rw [if_pos k3]
          exact fin z y (wrap_mid _ (by omega) (by omega)) (by have := hxy k1; have := hxz k3; omega)
        · rw [if_neg k3]
          exact fin x y (wrap_mid _ (by omega) (by omega)) (by have := hzx (by omega); have := hzy (by omega); omega)
      · rw [if_neg k1]
        by_cases k3 : x ≤ z
        · rw [if_pos k3]
          exact fin x z (wrap_mid _ (by omega) (by omega)) (by have := hyx (by omega); have := hyz (by omega); omega)
        rw [if_neg k3]
        by_cases k2 : y ≤ z
        · rw [if_pos k2]
          exact fin z x (wrap_mid _ (by omega) (by omega)) (by have := hyx (by omega); have := hyz k2; omega)
        · rw [if_neg k2]
          exact fin y x (wrap_mid _ (by omega) (by omega)) (by have := hzx (by omega); have := hzy (by omega); omega)
    · unfold gangsawref30_Area.f
      refine Evt.bind (rbox_ev a b c d e f) ?_
      unfold gangsawref06_Size.f
      simp only [if_pos h, Option.bind_some, wx, wy, wz, mx_max]
      rw [wrap_mid (x * y) (by omega) (by omega), wrap_mid (y * z) (by omega) (by omega), wrap_mid (x * z) (by omega) (by omega)]
      exact Evt.pure _
  · refine ⟨(0, checkB a b c d e f), ?_, ?_⟩
    · unfold slab_Area.f
      rw [box_f, Option.bind_some, if_neg h]
    · unfold gangsawref30_Area.f
      refine Evt.bind (rbox_ev a b c d e f) ?_
      simp only [if_neg h]
      exact Evt.pure _
theorem clone_f (l : List Int) (h : l.length ≤ 300) : slices_Clone_int_int.f l = some l := by
  unfold slices_Clone_int_int.f
  rw [if_pos (by omega)]
theorem turn_f (n0 n1 : ByteArray) (m a b c d e f g : Int) (l1 l2 : List Int) (h1 : l1.length ≤ 300) (h2 : l2.length ≤ 300) : Evt (fun k => slab_Turn.f k n0 n1 m a b c d e f g l1 l2) (n0, n1, m, a, b, c, d, e, f, g, l2, l1) := by
  unfold slab_Turn.f slab_clone.f
  rw [clone_f l1 h1, clone_f l2 h2]
  simp only [Option.bind_some]
  exact Evt.succ (g := fun _ => some _) (Evt.pure _) (fun k => by simp only [slab_Turn.j0])
theorem same_ev (l : List Int) (h : l.length ≤ 300) : Evt (fun k => gangsawref30_same.f k l l) true := by
  unfold gangsawref30_same.f
  simp only [if_true]
  have key : ∀ i, i ≤ l.length → Evt (fun k => gangsawref30_same.l0 k l l (i : Nat)) true := by
    refine down ?_ ?_
    · exact Evt.succ (g := fun _ => some true) (Evt.pure _) (fun k => by simp only [gangsawref30_same.l0, Int.lt_irrefl, if_false])
    · intro i hi ih
      refine Evt.succ ih (fun k => ?_)
      simp only [gangsawref30_same.l0, if_true, wrap_up i l.length hi (by omega)]
      rw [if_pos (by omega), if_pos (by omega), if_pos (by omega)]
  exact key 0 (by omega)
theorem equal_ev (n0 n1 : ByteArray) (m a b c d e f g : Int) (l1 l2 : List Int) (h1 : l1.length ≤ 300) (h2 : l2.length ≤ 300) : Evt (fun k => gangsawref30_Equal.f k n0 n1 m a b c d e f g l1 l2 n0 n1 m a b c d e f g l1 l2) true := by
  unfold gangsawref30_Equal.f
  simp only [if_true, beq_self_eq_true, Bool.and_self]
  refine Evt.bind (same_ev l1 h1) ?_
  simp only [if_true]
  exact Evt.bind (same_ev l2 h2) (Evt.pure _)
theorem SlabFaces : ∀ (x0 : S35), G35 x0 → ∃ k, gangsawlaw30_SlabFaces.f k x0.f0 x0.f1 x0.f2 x0.f3.f0.f0 x0.f3.f0.f1 x0.f3.f0.f2 x0.f3.f1.f0 x0.f3.f1.f1 x0.f3.f1.f2 x0.f4 x0.f5 x0.f6 = some true := by
  intro s hs
  refine Evt.exists_ (f := fun k => gangsawlaw30_SlabFaces.f k s.f0 s.f1 s.f2 s.f3.f0.f0 s.f3.f0.f1 s.f3.f0.f2 s.f3.f1.f0 s.f3.f1.f1 s.f3.f1.f2 s.f4 s.f5 s.f6) ?_
  generalize s.f0 = n0
  generalize s.f1 = n1
  generalize s.f2 = m
  generalize s.f3.f0.f0 = a
  generalize s.f3.f0.f1 = b
  generalize s.f3.f0.f2 = c
  generalize s.f3.f1.f0 = d
  generalize s.f3.f1.f1 = e
  generalize s.f3.f1.f2 = f
  generalize s.f4 = g
  generalize s.f5 = l1
  generalize s.f6 = l2
  unfold gangsawlaw30_SlabFaces.f
  refine Evt.bind0 (g := gangsawlaw30_awake.f) rfl ?_
  simp only [if_true]
  obtain ⟨q, hq, hb⟩ : ∃ q, gangsawref30_Small.f n0 n1 m a b c d e f g l1 l2 = some q ∧ (q = true → l1.length ≤ 300 ∧ l2.length ≤ 300) := by
    unfold gangsawref30_Small.f
    by_cases h1 : (n0.size : Int) ≤ 100
    · rw [if_pos h1]
      by_cases h2 : (n1.size : Int) ≤ 100
      · rw [if_pos h2]
        by_cases h3 : (l1.length : Int) ≤ 300
        · rw [if_pos h3]
          exact ⟨_, rfl, fun h => by have := of_decide_eq_true h; omega⟩
        · rw [if_neg h3]; exact ⟨false, rfl, fun h => by simp at h⟩
      · rw [if_neg h2]; exact ⟨false, rfl, fun h => by simp at h⟩
    · rw [if_neg h1]; exact ⟨false, rfl, fun h => by simp at h⟩
  rw [hq]
  cases q with
  | false => exact Evt.const (fun k => rfl)
  | true =>
  obtain ⟨h1, h2⟩ := hb rfl
  obtain ⟨v, e1, e2⟩ := area_ev n0 n1 m a b c d e f g l1 l2
  simp only [Option.bind_some, if_true, e1]
  refine Evt.bind e2 (Evt.bind (turn_f n0 n1 m a b c d e f g l1 l2 h1 h2) ?_)
  simp only [if_true, gangsawref30_Turn.f, Option.bind_some]
  refine Evt.bind (equal_ev n0 n1 m a b c d e f g l2 l1 h2 h1) ?_
  simp only [if_true]
  refine Evt.bind (turn_f n0 n1 m a b c d e f g l2 l1 h2 h1) ?_
  exact Evt.bind (equal_ev n0 n1 m a b c d e f g l1 l2 h1 h2) (Evt.pure _)
end Go.Proofs.YtnaahepnabmibaaGreatDoor.Pure
