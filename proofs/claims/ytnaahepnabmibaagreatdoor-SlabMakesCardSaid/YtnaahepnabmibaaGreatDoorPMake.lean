/-
 Make: what the program's and the reference's yield.
-/
import Derived.Test.YtnaahepnabmibaaGreatDoorPSlab
import Derived.Test.YtnaahepnabmibaaGreatDoorPx4
import Derived.Test.YtnaahepnabmibaaGreatDoorPx8
set_option linter.unusedVariables false
set_option linter.unusedSimpArgs false
namespace Go.Proofs.YtnaahepnabmibaaGreatDoor.PMake
open Go.RowKit Go.Proofs.YtnaahepnabmibaaGreatDoorW.PrintWords Go.Proofs.YtnaahepnabmibaaGreatDoorW.PrintLast Go.Proofs.YtnaahepnabmibaaGreatDoor.P Go.Proofs.YtnaahepnabmibaaGreatDoor.Rnd Go.Proofs.YtnaahepnabmibaaGreatDoor.Awk Go.Proofs.YtnaahepnabmibaaGreatDoor.Sym Go.Proofs.YtnaahepnabmibaaGreatDoor.Lex Go.Proofs.YtnaahepnabmibaaGreatDoor.Itoa Go.Proofs.YtnaahepnabmibaaGreatDoor.PName Go.Proofs.YtnaahepnabmibaaGreatDoor.PSlab
/-- a box, cut along an axis -/
def bw (x a b c d e f lo hi : Int) : S32 := if x = 0 then ⟨⟨lo, b, c⟩, ⟨hi, e, f⟩⟩ else if x = 1 then ⟨⟨a, lo, c⟩, ⟨d, hi, f⟩⟩ else ⟨⟨a, b, lo⟩, ⟨d, e, hi⟩⟩
def at3 (x a b c : Int) : Int := if x = 0 then a else if x = 1 then b else c
def slabV (n0 : ByteArray) (x a b c d e f lo t k0 f0 : Int) (i : Nat) : S35 := ⟨nm n0 (f0 + i), n0, f0 + i, bw x a b c d e f (lo + i * (t + k0)) (lo + i * (t + k0) + t), 0, [], []⟩
def slabsV (n0 : ByteArray) (x a b c d e f lo t k0 f0 : Int) (n : Nat) : List S35 := (List.range n).map (slabV n0 x a b c d e f lo t k0 f0)
def restV (x a b c d e f lo hi t k0 : Int) (n : Nat) : List S32 := if lo + n * (t + k0) < hi then [bw x a b c d e f (lo + n * (t + k0)) hi] else []
def makeV (n0 : ByteArray) (a b c d e f x t k0 f0 : Int) : List S35 × List S32 × Int :=
 if ¬ okS x t k0 f0 then ([], [], 6) else if nameB n0 = false then ([], [], 4) else if checkB a b c d e f ≠ 0 then ([], [], checkB a b c d e f) else
 let lo := at3 x a b c; let hi := at3 x d e f; let n := ((hi - lo + k0) / (t + k0)).toNat
 if n = 0 then ([], [], 9) else if 256 < n then ([], [], 7) else if 1000000 < f0 + n - 1 then ([], [], 6) else if nameB (nm n0 (f0 + n - 1)) = false then ([], [], 4) else
 (slabsV n0 x a b c d e f lo t k0 f0 n, restV x a b c d e f lo hi t k0 n, 0)
theorem check_zero {a b c d e f : Int} (h : checkB a b c d e f = 0) : okR a b c d e f ∧ a < d ∧ b < e ∧ c < f := by
 unfold checkB at h
 by_cases h0 : okR a b c d e f
 ·rw [if_pos h0] at h
  by_cases h1 : a ≥ d
  ·rw [if_pos h1] at h; omega
  rw [if_neg h1] at h
  by_cases h2 : b ≥ e
  ·rw [if_pos h2] at h; omega
  rw [if_neg h2] at h
  by_cases h3 : c ≥ f
  ·rw [if_pos h3] at h; omega
  exact ⟨h0, by omega, by omega, by omega⟩
 ·rw [if_neg h0] at h; omega
/-- what both loops know -/
structure Dims (n0 : ByteArray) (a b c d e f x t k0 f0 : Int) (n : Nat) : Prop where
 hs : okS x t k0 f0
 hr : okR a b c d e f
 ax : a < d ∧ b < e ∧ c < f
 lt : at3 x a b c < at3 x d e f
 lo0 : -1000000 ≤ at3 x a b c
 hi0 : at3 x d e f ≤ 1000000
 n1 : (n : Int) * (t + k0) ≤ at3 x d e f - at3 x a b c + k0
 n2 : at3 x d e f - at3 x a b c + k0 < (n : Int) * (t + k0) + (t + k0)
 n3 : n ≤ 256
 sz : n0.size ≤ 100
theorem three_ {x : Int} (h0 : 0 ≤ x) (h2 : x ≤ 2) : x = 0 ∨ x = 1 ∨ x = 2 := by omega
theorem itoa_f {m : Int} (h0 : 0 ≤ m) (h1 : m ≤ 4000000) : strconv_Itoa.f m = some (decI m) := by
 unfold strconv_Itoa.f
 rw [if_pos (by omega)]
theorem str_ {n0 : ByteArray} (hz : n0.size ≤ 100) {m : Nat} (h1 : m ≤ 4000000) : n0.size + 1 ≤ 9223372036854775807 ∧ (n0 ++ (⟨#[95]⟩ : ByteArray)).size + (decI (m : Int)).size ≤ 9223372036854775807 := by
 have : (decI (m : Int)).size ≤ 21 := by
  show (Lib.itoa (m : Int)).toArray.size ≤ 21
  rw [List.size_toArray]
  exact Lib.itoa_length_le _ (by omega) (by omega)
 refine ⟨by omega, ?_⟩
 rw [ByteArray.size_append]
 show n0.size + 1 + _ ≤ _
 omega
theorem between_f (a b c d e f x lo hi : Int) : gangsawref30_between.f a b c d e f x lo hi = some ((bw x a b c d e f lo hi).f0.f0, (bw x a b c d e f lo hi).f0.f1, (bw x a b c d e f lo hi).f0.f2, (bw x a b c d e f lo hi).f1.f0, (bw x a b c d e f lo hi).f1.f1, (bw x a b c d e f lo hi).f1.f2) := by
 unfold gangsawref30_between.f bw
 by_cases h : x = 0
 ·simp only [if_pos h]
 ·by_cases h1 : x = 1
  ·simp only [if_neg h, if_pos h1]
  ·simp only [if_neg h, if_neg h1]
section
variable {n0 : ByteArray} {a b c d e f x t k0 f0 : Int} {n : Nat} (D : Dims n0 a b c d e f x t k0 f0 n)
include D
theorem Dims.prod {i : Nat} (hi : i ≤ n) : 0 ≤ (i : Int) * (t + k0) ∧ (i : Int) * (t + k0) ≤ 512000 := by
 have h := D.hs
 unfold okS at h
 have h3 := D.n3
 refine ⟨Int.mul_nonneg (by omega) (by omega), ?_⟩
 have := Int.mul_le_mul (show (i : Int) ≤ 256 by omega) (show t + k0 ≤ 2000 by omega) (by omega) (by decide)
 omega
theorem slab_loop (k1 : nameB n0 = true) :
  ∀ i, i ≤ n → ∀ acc : List S35, acc.length = i → Evt (fun k => slab_Make.l0 k (at3 x a b c) n acc n (i : Nat) n0 a b c d e f x t k0 f0) (acc ++ (List.range' i (n - i)).map (slabV n0 x a b c d e f (at3 x a b c) t k0 f0), restV x a b c d e f (at3 x a b c) (at3 x d e f) t k0 n, 0) := by
 have hs := D.hs; have hr := D.hr; have hax := D.ax; have hlt := D.lt; have hlo := D.lo0; have hhi := D.hi0; have hn1 := D.n1; have hn2 := D.n2; have hn3 := D.n3
 unfold okS at hs
 unfold okR at hr
 refine down (P := fun i => ∀ acc : List S35, acc.length = i → Evt (fun k => slab_Make.l0 k (at3 x a b c) n acc n (i : Nat) n0 a b c d e f x t k0 f0) (acc ++ (List.range' i (n - i)).map (slabV n0 x a b c d e f (at3 x a b c) t k0 f0), restV x a b c d e f (at3 x a b c) (at3 x d e f) t k0 n, 0)) ?_ ?_
 ·intro acc hacc
  rw [Nat.sub_self, List.range'_zero, List.map_nil, List.append_nil]
  obtain ⟨q0, q1⟩ := D.prod (Nat.le_refl n)
  unfold restV
  have w1 : wrap64 (t + k0) = t + k0 := wrap_mid _ (by omega) (by omega)
  have w2 : wrap64 ((n : Int) * (t + k0)) = (n : Int) * (t + k0) := wrap_mid _ (by omega) (by omega)
  have w3 : wrap64 (at3 x a b c + (n : Int) * (t + k0)) = at3 x a b c + (n : Int) * (t + k0) := wrap_mid _ (by omega) (by omega)
  generalize hq : (n : Int) * (t + k0) = q at *
  have fin : ∀ A B C D' E F : Int, (⟨⟨A, B, C⟩, ⟨D', E, F⟩⟩ : S32) = bw x a b c d e f (at3 x a b c + q) (at3 x d e f) → ((checkB A B C D' E F = 0) ↔ at3 x a b c + q < at3 x d e f) →
    Evt (fun k => slab_Make.j4 k acc A B C D' E F) (acc, (if at3 x a b c + q < at3 x d e f then [bw x a b c d e f (at3 x a b c + q) (at3 x d e f)] else []), 0) := by
   intro A B C D' E F h1 h2
   refine Evt.succ (g := fun _ => some _) (Evt.pure _) (fun k => ?_)
   simp only [slab_Make.j4, box_f, Option.bind_some]
   by_cases h3 : at3 x a b c + q < at3 x d e f
   ·rw [if_pos (h2.2 h3), if_pos h3, h1]
   ·rw [if_neg (fun h4 => h3 (h2.1 h4)), if_neg h3]
  have okc : ∀ A B C D' E F : Int, ((checkB A B C D' E F = 0) ↔ (okR A B C D' E F ∧ A < D' ∧ B < E ∧ C < F)) := fun A B C D' E F => ⟨check_zero, fun ⟨h1, h2, h3, h4⟩ => by unfold checkB; rw [if_pos h1, if_neg (by omega), if_neg (by omega), if_neg (by omega)]⟩
  rcases three_ hs.1 hs.2.1 with rfl | rfl | rfl
  ·refine Evt.succ (fin (at3 0 a b c + q) b c d e f rfl ?_) (fun k => ?_)
   ·rw [okc]; unfold okR; simp only [at3, if_true] at *; omega
   ·simp only [slab_Make.l0, w1, hq, w2, w3, Int.lt_irrefl, if_false, if_true]
  ·refine Evt.succ (fin a (at3 1 a b c + q) c d e f rfl ?_) (fun k => ?_)
   ·rw [okc]; unfold okR; simp [at3] at *; omega
   ·simp only [slab_Make.l0, w1, hq, w2, w3, Int.lt_irrefl, if_false, if_true, show ¬ (1 : Int) = 0 by decide]
  ·refine Evt.succ (fin a b (at3 2 a b c + q) d e f rfl ?_) (fun k => ?_)
   ·rw [okc]; unfold okR; simp [at3] at *; omega
   ·simp only [slab_Make.l0, w1, hq, w2, w3, Int.lt_irrefl, if_false, if_true, show ¬ (2 : Int) = 0 by decide, show ¬ (2 : Int) = 1 by decide]
 ·intro i hi ih acc hacc
  clear hr hax hn1 hn2
  obtain ⟨q0, q1⟩ := D.prod (Nat.le_of_lt hi)
  have g0 : 0 ≤ f0 + (i : Int) := by omega
  have g1 : f0 + (i : Int) ≤ 2000000 := by omega
  obtain ⟨m, hm⟩ := Int.eq_ofNat_of_zero_le g0
  have g2 : m ≤ 2000000 := by omega
  have hI : strconv_Itoa.f (f0 + i) = some (decI (f0 + i)) := itoa_f g0 (by omega)
  obtain ⟨s1, s2⟩ := str_ D.sz (m := m) (by omega)
  rw [← hm] at s2
  have he : n - i = (n - (i + 1)) + 1 := by omega
  have hlen : acc.length < 977343669134 := by omega
  have hc : (i : Int) < (n : Int) := by omega
  have w6 : wrap64 ((i : Int) + 1) = ((i + 1 : Nat) : Int) := wrap_up i n hi (by omega)
  have z1 : ∀ y : Int, -2000000 ≤ y → y ≤ 2000000 → wrap64 y = y := fun y h1 h2 => wrap_mid y (by omega) (by omega)
  have w1 : wrap64 (t + k0) = t + k0 := z1 _ (by clear w6; omega) (by clear w6; omega)
  have w2 : wrap64 ((i : Int) * (t + k0)) = (i : Int) * (t + k0) := z1 _ (by clear w6 w1; omega) (by clear w6 w1; omega)
  have w3 : wrap64 (at3 x a b c + (i : Int) * (t + k0)) = at3 x a b c + (i : Int) * (t + k0) := z1 _ (by clear w6 w1 w2; omega) (by clear w6 w1 w2; omega)
  have w4 : wrap64 (at3 x a b c + (i : Int) * (t + k0) + t) = at3 x a b c + (i : Int) * (t + k0) + t := z1 _ (by clear w6 w1 w2 w3; omega) (by clear w6 w1 w2 w3; omega)
  have w5 : wrap64 (f0 + (i : Int)) = f0 + i := z1 _ (by clear w6 w1 w2 w3 w4; omega) g1
  have := ih (acc ++ [slabV n0 x a b c d e f (at3 x a b c) t k0 f0 i]) (by simp [hacc])
  rw [he, List.range'_succ, List.map_cons]
  rw [List.append_assoc, List.singleton_append] at this
  have hS : slabV n0 x a b c d e f (at3 x a b c) t k0 f0 i = ⟨nm n0 (f0 + i), n0, f0 + i, bw x a b c d e f (at3 x a b c + i * (t + k0)) (at3 x a b c + i * (t + k0) + t), 0, [], []⟩ := rfl
  rw [hS] at this ⊢
  have hN : (n0 ++ (⟨#[95]⟩ : ByteArray)) ++ decI (f0 + i) = nm n0 (f0 + i) := rfl
  generalize hB : bw x a b c d e f (at3 x a b c + i * (t + k0)) (at3 x a b c + i * (t + k0) + t) = B at this ⊢
  obtain ⟨⟨B1, B2, B3⟩, ⟨B4, B5, B6⟩⟩ := B
  generalize (List.range' (i + 1) (n - (i + 1))).map (slabV n0 x a b c d e f (at3 x a b c) t k0 f0) = R at this ⊢
  generalize restV x a b c d e f (at3 x a b c) (at3 x d e f) t k0 n = Z at this ⊢
  refine Evt.succ (Evt.succ this (f := fun k => slab_Make.j3 k (at3 x a b c) n acc n i n0 a b c d e f x t k0 f0 (nm n0 (f0 + i)) n0 (f0 + i) B1 B2 B3 B4 B5 B6 0) (fun k => ?_)) (fun k => ?_)
  ·simp only [slab_Make.j3, w6, if_pos hlen]
  ·generalize nm n0 (f0 + i) = M at hN
   generalize decI (f0 + i) = DI at hN hI s2
   generalize at3 x a b c = LO at w3 w4 hB
   generalize hq : (i : Int) * (t + k0) = q at w2 w3 w4 hB
   rcases three_ hs.1 hs.2.1 with rfl | rfl | rfl
   ·simp only [bw, if_true, S32.mk.injEq, S30.mk.injEq] at hB
    obtain ⟨⟨h1, h2, h3⟩, h4, h5, h6⟩ := hB
    subst h1 h2 h3 h4 h5 h6
    simp only [slab_Make.l0, w1, hq, w2, w3, w4, w5, hI, Option.bind_some, if_pos hc, if_pos s1, if_pos s2, if_true, hN]
   ·simp only [bw, if_true, show ¬ (1 : Int) = 0 by decide, if_false, S32.mk.injEq, S30.mk.injEq] at hB
    obtain ⟨⟨h1, h2, h3⟩, h4, h5, h6⟩ := hB
    subst h1 h2 h3 h4 h5 h6
    simp only [slab_Make.l0, w1, hq, w2, w3, w4, w5, hI, Option.bind_some, if_pos hc, if_pos s1, if_pos s2, if_true, hN, show ¬ (1 : Int) = 0 by decide, if_false]
   ·simp only [bw, show ¬ (2 : Int) = 0 by decide, show ¬ (2 : Int) = 1 by decide, if_false, S32.mk.injEq, S30.mk.injEq] at hB
    obtain ⟨⟨h1, h2, h3⟩, h4, h5, h6⟩ := hB
    subst h1 h2 h3 h4 h5 h6
    simp only [slab_Make.l0, w1, hq, w2, w3, w4, w5, hI, Option.bind_some, if_pos hc, if_pos s1, if_pos s2, if_true, hN, show ¬ (2 : Int) = 0 by decide, show ¬ (2 : Int) = 1 by decide, if_false]
theorem rloop_ok (kn : ∀ i, i < n → nameB (nm n0 (f0 + (i : Nat))) = true) :
  ∀ i, i ≤ n → ∀ acc : List S35, acc.length = i → Evt (fun k => gangsawref30_Make.l0 k (at3 x a b c) (at3 x d e f) n acc (i : Nat) n0 a b c d e f x t k0 f0) (acc ++ (List.range' i (n - i)).map (slabV n0 x a b c d e f (at3 x a b c) t k0 f0), restV x a b c d e f (at3 x a b c) (at3 x d e f) t k0 n, 0) := by
 have hs := D.hs; have hlt := D.lt; have hlo := D.lo0; have hhi := D.hi0; have hn3 := D.n3
 unfold okS at hs
 refine down (P := fun i => ∀ acc : List S35, acc.length = i → Evt (fun k => gangsawref30_Make.l0 k (at3 x a b c) (at3 x d e f) n acc (i : Nat) n0 a b c d e f x t k0 f0) (acc ++ (List.range' i (n - i)).map (slabV n0 x a b c d e f (at3 x a b c) t k0 f0), restV x a b c d e f (at3 x a b c) (at3 x d e f) t k0 n, 0)) ?_ ?_
 ·intro acc hacc
  rw [Nat.sub_self, List.range'_zero, List.map_nil, List.append_nil]
  obtain ⟨q0, q1⟩ := D.prod (Nat.le_refl n)
  unfold restV
  have z1 : ∀ y : Int, -2000000 ≤ y → y ≤ 2000000 → wrap64 y = y := fun y h1 h2 => wrap_mid y (by omega) (by omega)
  have w1 : wrap64 (t + k0) = t + k0 := z1 _ (by omega) (by omega)
  have w2 : wrap64 ((n : Int) * (t + k0)) = (n : Int) * (t + k0) := z1 _ (by clear w1; omega) (by clear w1; omega)
  have w3 : wrap64 (at3 x a b c + (n : Int) * (t + k0)) = at3 x a b c + (n : Int) * (t + k0) := z1 _ (by clear w1 w2; omega) (by clear w1 w2; omega)
  generalize hq : (n : Int) * (t + k0) = q at w2 w3 ⊢
  refine Evt.succ (g := fun _ => some _) (Evt.pure _) (fun k => ?_)
  simp only [gangsawref30_Make.l0, w1, hq, w2, w3, Int.lt_irrefl, if_false, between_f, Option.bind_some, List.nil_append]
  by_cases h3 : at3 x a b c + q < at3 x d e f
  ·rw [if_pos h3, if_pos h3, if_pos (by decide)]
  ·rw [if_neg h3, if_neg h3]
 ·intro i hi ih acc hacc
  obtain ⟨q0, q1⟩ := D.prod (Nat.le_of_lt hi)
  have g0 : 0 ≤ f0 + (i : Int) := by omega
  have g1 : f0 + (i : Int) ≤ 2000000 := by omega
  obtain ⟨m, hm⟩ := Int.eq_ofNat_of_zero_le g0
  have g2 : m ≤ 2000000 := by omega
  have hI : strconv_Itoa.f (f0 + i) = some (decI (f0 + i)) := itoa_f g0 (by omega)
  obtain ⟨s1, s2⟩ := str_ D.sz (m := m) (by omega)
  have s3 : (nm n0 (f0 + i)).size ≤ 9223372036854775807 := by
   rw [hm]; unfold nm; rw [ByteArray.size_append]; exact s2
  rw [← hm] at s2
  have he : n - i = (n - (i + 1)) + 1 := by omega
  have hlen : acc.length < 977343669134 := by omega
  have hc : (i : Int) < (n : Int) := by omega
  have w6 : wrap64 ((i : Int) + 1) = ((i + 1 : Nat) : Int) := wrap_up i n hi (by omega)
  have z1 : ∀ y : Int, -2000000 ≤ y → y ≤ 2000000 → wrap64 y = y := fun y h1 h2 => wrap_mid y (by omega) (by omega)
  have w1 : wrap64 (t + k0) = t + k0 := z1 _ (by clear w6; omega) (by clear w6; omega)
  have w2 : wrap64 ((i : Int) * (t + k0)) = (i : Int) * (t + k0) := z1 _ (by clear w6 w1; omega) (by clear w6 w1; omega)
  have w3 : wrap64 (at3 x a b c + (i : Int) * (t + k0)) = at3 x a b c + (i : Int) * (t + k0) := z1 _ (by clear w6 w1 w2; omega) (by clear w6 w1 w2; omega)
  have w4 : wrap64 (at3 x a b c + (i : Int) * (t + k0) + t) = at3 x a b c + (i : Int) * (t + k0) + t := z1 _ (by clear w6 w1 w2 w3; omega) (by clear w6 w1 w2 w3; omega)
  have w5 : wrap64 (f0 + (i : Int)) = f0 + i := z1 _ (by clear w6 w1 w2 w3 w4; omega) g1
  have := ih (acc ++ [slabV n0 x a b c d e f (at3 x a b c) t k0 f0 i]) (by simp [hacc])
  rw [he, List.range'_succ, List.map_cons]
  rw [List.append_assoc, List.singleton_append] at this
  have hS : slabV n0 x a b c d e f (at3 x a b c) t k0 f0 i = ⟨nm n0 (f0 + i), n0, f0 + i, bw x a b c d e f (at3 x a b c + i * (t + k0)) (at3 x a b c + i * (t + k0) + t), 0, [], []⟩ := rfl
  rw [hS] at this ⊢
  have hN : (n0 ++ (⟨#[95]⟩ : ByteArray)) ++ decI (f0 + i) = nm n0 (f0 + i) := rfl
  have kni := kn i hi
  refine Evt.succ (g := fun k => (gangsawref09_Name.f k (nm n0 (f0 + i))).bind fun v => if v = true then gangsawref30_Make.l0 k (at3 x a b c) (at3 x d e f) n (acc ++ [(⟨nm n0 (f0 + i), n0, f0 + i, bw x a b c d e f (at3 x a b c + i * (t + k0)) (at3 x a b c + i * (t + k0) + t), 0, [], []⟩ : S35)]) ((i + 1 : Nat) : Int) n0 a b c d e f x t k0 f0 else some ([], [], 4)) ?_ (fun k => ?_)
  ·refine Evt.bind (name_ev _ s3) ?_
   simp only [kni, if_true]
   exact this
  ·have hB := between_f a b c d e f x (at3 x a b c + i * (t + k0)) (at3 x a b c + i * (t + k0) + t)
   generalize bw x a b c d e f (at3 x a b c + i * (t + k0)) (at3 x a b c + i * (t + k0) + t) = B at hB ⊢
   obtain ⟨⟨B1, B2, B3⟩, ⟨B4, B5, B6⟩⟩ := B
   simp only [gangsawref30_Make.l0, w1, w2, w3, w4, w5, w6, hI, Option.bind_some, if_pos hc, if_pos s1, if_pos s2, hB, if_pos hlen, hN]
theorem rloop_bad (h1 : 1 ≤ n) (kb : nameB (nm n0 (f0 + n - 1)) = false) :
  ∀ i, i ≤ n - 1 → ∀ acc : List S35, acc.length = i → Evt (fun k => gangsawref30_Make.l0 k (at3 x a b c) (at3 x d e f) n acc (i : Nat) n0 a b c d e f x t k0 f0) ([], [], 4) := by
 have hs := D.hs; have hlt := D.lt; have hlo := D.lo0; have hhi := D.hi0; have hn3 := D.n3
 unfold okS at hs
 have step : ∀ i, i < n → ∀ acc : List S35, acc.length = i → (nameB (nm n0 (f0 + (i : Nat))) = true → ∀ s, Evt (fun k => gangsawref30_Make.l0 k (at3 x a b c) (at3 x d e f) n (acc ++ [s]) ((i + 1 : Nat) : Int) n0 a b c d e f x t k0 f0) ([], [], 4)) → Evt (fun k => gangsawref30_Make.l0 k (at3 x a b c) (at3 x d e f) n acc (i : Nat) n0 a b c d e f x t k0 f0) ([], [], 4) := by
  intro i hi acc hacc ih
  have g0 : 0 ≤ f0 + (i : Int) := by omega
  have g1 : f0 + (i : Int) ≤ 2000000 := by omega
  obtain ⟨m, hm⟩ := Int.eq_ofNat_of_zero_le g0
  have g2 : m ≤ 2000000 := by omega
  have hI : strconv_Itoa.f (f0 + i) = some (decI (f0 + i)) := itoa_f g0 (by omega)
  obtain ⟨s1, s2⟩ := str_ D.sz (m := m) (by omega)
  have s3 : (nm n0 (f0 + i)).size ≤ 9223372036854775807 := by
   rw [hm]; unfold nm; rw [ByteArray.size_append]; exact s2
  rw [← hm] at s2
  have hlen : acc.length < 977343669134 := by omega
  have hc : (i : Int) < (n : Int) := by omega
  have w6 : wrap64 ((i : Int) + 1) = ((i + 1 : Nat) : Int) := wrap_up i n hi (by omega)
  have w5 : wrap64 (f0 + (i : Int)) = f0 + i := wrap_mid _ (by clear w6; omega) (by clear w6; omega)
  have hN : (n0 ++ (⟨#[95]⟩ : ByteArray)) ++ decI (f0 + i) = nm n0 (f0 + i) := rfl
  refine Evt.succ (g := fun k => (gangsawref09_Name.f k (nm n0 (f0 + i))).bind fun v => if v = true then gangsawref30_Make.l0 k (at3 x a b c) (at3 x d e f) n (acc ++ [(⟨nm n0 (f0 + i), n0, f0 + i, bw x a b c d e f (wrap64 (at3 x a b c + (wrap64 (i * (wrap64 (t + k0)))))) (wrap64 ((wrap64 (at3 x a b c + (wrap64 (i * (wrap64 (t + k0)))))) + t)), 0, [], []⟩ : S35)]) ((i + 1 : Nat) : Int) n0 a b c d e f x t k0 f0 else some ([], [], 4)) ?_ (fun k => ?_)
  ·refine Evt.bind (name_ev _ s3) ?_
   cases hv : nameB (nm n0 (f0 + i)) with
   | true => simp only [if_true]; exact ih hv _
   | false => simp only [Bool.false_eq_true, if_false]; exact Evt.pure _
  ·generalize hp1 : wrap64 (at3 x a b c + (wrap64 (i * (wrap64 (t + k0))))) = p1
   generalize hp2 : wrap64 (p1 + t) = p2
   have hB := between_f a b c d e f x p1 p2
   generalize bw x a b c d e f p1 p2 = B at hB ⊢
   obtain ⟨⟨B1, B2, B3⟩, ⟨B4, B5, B6⟩⟩ := B
   simp only [gangsawref30_Make.l0, w5, w6, hI, Option.bind_some, if_pos hc, if_pos s1, if_pos s2, hp1, hp2, hB, if_pos hlen, hN]
 refine down (P := fun i => ∀ acc : List S35, acc.length = i → Evt (fun k => gangsawref30_Make.l0 k (at3 x a b c) (at3 x d e f) n acc (i : Nat) n0 a b c d e f x t k0 f0) ([], [], 4)) ?_ ?_
 ·intro acc hacc
  refine step (n - 1) (by omega) acc hacc (fun hv => ?_)
  rw [show f0 + ((n - 1 : Nat) : Int) = f0 + n - 1 by omega, kb] at hv
  cases hv
 ·intro i hi ih acc hacc
  exact step i (by omega) acc hacc (fun _ s => ih (acc ++ [s]) (by simp [hacc]))
end
/-- the count, where all is in order -/
theorem dims_of {n0 : ByteArray} {a b c d e f x t k0 f0 : Int} (hsz : n0.size ≤ 100) (h : okS x t k0 f0) (hc : checkB a b c d e f = 0) :
  ∃ n : Nat, (at3 x d e f - at3 x a b c + k0) / (t + k0) = (n : Int) ∧ okC x t k0 f0 (at3 x d e f - at3 x a b c) ∧ wrap64 (at3 x d e f - at3 x a b c) = at3 x d e f - at3 x a b c ∧ n ≤ 2001000 ∧ (n ≤ 256 → Dims n0 a b c d e f x t k0 f0 n) := by
 obtain ⟨hr, hax⟩ := check_zero hc
 have hs := h
 have hr' := hr
 unfold okS at hs
 unfold okR at hr'
 have hd : -1000000 ≤ at3 x a b c ∧ at3 x d e f ≤ 1000000 ∧ at3 x a b c < at3 x d e f := by
  rcases three_ hs.1 hs.2.1 with rfl | rfl | rfl <;> simp [at3] <;> omega
 clear hr'
 obtain ⟨d0, d1, d2⟩ := hd
 have hpp : 0 < t + k0 := by omega
 have hnn : 0 ≤ (at3 x d e f - at3 x a b c + k0) / (t + k0) := Int.ediv_nonneg (by omega) (by omega)
 have hle : (at3 x d e f - at3 x a b c + k0) / (t + k0) ≤ at3 x d e f - at3 x a b c + k0 := Int.ediv_le_self _ (by omega)
 have n1 : (at3 x d e f - at3 x a b c + k0) / (t + k0) * (t + k0) ≤ at3 x d e f - at3 x a b c + k0 := Int.ediv_mul_le _ (by omega)
 have n2 : at3 x d e f - at3 x a b c + k0 < ((at3 x d e f - at3 x a b c + k0) / (t + k0) + 1) * (t + k0) := Int.lt_ediv_add_one_mul_self _ hpp
 rw [Int.add_mul, Int.one_mul] at n2
 obtain ⟨n, hn⟩ := Int.eq_ofNat_of_zero_le hnn
 rw [hn] at n1 n2 hle
 exact ⟨n, hn, ⟨h, by omega, by omega⟩, wrap_mid _ (by omega) (by omega), by omega, fun h3 => ⟨h, hr, hax, d2, d0, d1, n1, n2, h3, hsz⟩⟩
theorem j0_of (k : Nat) (n0 : ByteArray) (a b c d e f x t k0 f0 : Int) (h : okS x t k0 f0) :
  (if x = 0 then (slab_Make.j0 k a d n0 a b c d e f x t k0 f0) else (if x = 1 then (slab_Make.j0 k b e n0 a b c d e f x t k0 f0) else (if x = 2 then (slab_Make.j0 k c f n0 a b c d e f x t k0 f0) else none))) = slab_Make.j0 k (at3 x a b c) (at3 x d e f) n0 a b c d e f x t k0 f0 := by
 unfold okS at h
 rcases three_ h.1 h.2.1 with rfl | rfl | rfl
 ·rfl
 ·rfl
 ·rfl
theorem nameB_f (s : ByteArray) : lexer_Name.f s = some (nameB s) := rfl
theorem make_ev (n0 : ByteArray) (a b c d e f x t k0 f0 : Int) (hsz : n0.size ≤ 100) : Evt (fun k => slab_Make.f k n0 a b c d e f x t k0 f0) (makeV n0 a b c d e f x t k0 f0) := by
 unfold slab_Make.f makeV
 refine Evt.bind0 (check_f x t k0 f0) ?_
 by_cases h : okS x t k0 f0
 ·simp only [if_pos h, not_true, if_false, if_true, h]
  refine Evt.bind0 (nameB_f n0) ?_
  cases hv : nameB n0 with
  | false => simp only [Bool.false_eq_true, if_false, if_true]; exact Evt.pure _
  | true =>
   simp only [if_true, Bool.true_eq_false, if_false]
   refine Evt.bind0 (box_f a b c d e f) ?_
   by_cases hc : checkB a b c d e f = 0
   ·simp only [if_pos hc, hc, ne_eq, not_true, if_false, j0_of _ _ _ _ _ _ _ _ _ _ _ _ h]
    obtain ⟨n, hn, hk, hw, hn3, hD⟩ := dims_of hsz h hc
    rw [hn, Int.toNat_natCast]
    have hs := h
    unfold okS at hs
    have g0 : 0 ≤ f0 + (n : Int) - 1 := by omega
    have g1 : f0 + (n : Int) - 1 ≤ 4000000 := by omega
    obtain ⟨m, hm⟩ := Int.eq_ofNat_of_zero_le g0
    have hI : strconv_Itoa.f (f0 + n - 1) = some (decI (f0 + n - 1)) := itoa_f g0 g1
    obtain ⟨s1, s2⟩ := str_ hsz (m := m) (by omega)
    rw [← hm] at s2
    have w1 : wrap64 (f0 + (n : Int)) = f0 + n := wrap_mid _ (by clear hw; omega) (by clear hw; omega)
    have w2 : wrap64 (f0 + (n : Int) - 1) = f0 + n - 1 := wrap_mid _ (by clear hw w1; omega) (by clear hw w1; omega)
    have hN : (n0 ++ (⟨#[95]⟩ : ByteArray)) ++ decI (f0 + n - 1) = nm n0 (f0 + n - 1) := rfl
    refine Evt.succ (g := fun k => slab_Make.j1 k (at3 x a b c) n (nm n0 (f0 + n - 1)) n0 a b c d e f x t k0 f0) ?_ (fun k => by simp only [slab_Make.j0, hw, count_f, if_pos hk, hn, Option.bind_some, if_pos s1, w1, w2, hI, if_pos s2, hN, if_true])
    have e0 : ((n : Int) = 0) = (n = 0) := propext (by omega)
    have e1 : ((n : Int) > 256) = (256 < n) := propext (by omega)
    have e2 : (f0 + (n : Int) - 1 > 1000000) = (1000000 < f0 + (n : Int) - 1) := rfl
    by_cases z0 : n = 0
    ·simp only [if_pos z0]
     exact Evt.succ (g := fun _ => some _) (Evt.pure _) (fun k => by simp only [slab_Make.j1, e0, if_pos z0])
    by_cases z1 : 256 < n
    ·simp only [if_neg z0, if_pos z1]
     exact Evt.succ (g := fun _ => some _) (Evt.pure _) (fun k => by simp only [slab_Make.j1, e0, if_neg z0, e1, if_pos z1])
    by_cases z2 : 1000000 < f0 + (n : Int) - 1
    ·simp only [if_neg z0, if_neg z1, if_pos z2]
     exact Evt.succ (g := fun _ => some _) (Evt.pure _) (fun k => by simp only [slab_Make.j1, e0, if_neg z0, e1, if_neg z1, w1, w2, e2, if_pos z2])
    cases hl : nameB (nm n0 (f0 + n - 1)) with
    | false =>
     simp only [if_neg z0, if_neg z1, if_neg z2, if_true]
     exact Evt.succ (g := fun _ => some _) (Evt.pure _) (fun k => by simp only [slab_Make.j1, e0, if_neg z0, e1, if_neg z1, w1, w2, e2, if_neg z2, nameB_f, hl, Option.bind_some, Bool.false_eq_true, if_false])
    | true =>
     simp only [if_neg z0, if_neg z1, if_neg z2, Bool.true_eq_false, if_false]
     have := slab_loop (hD (by omega)) hv 0 (by omega) [] rfl
     rw [Nat.sub_zero, List.nil_append, ← List.range_eq_range'] at this
     exact Evt.succ this (fun k => by simp only [slab_Make.j1, e0, if_neg z0, e1, if_neg z1, w1, w2, e2, if_neg z2, nameB_f, hl, Option.bind_some, if_true]; rfl)
   ·simp only [if_neg hc, ne_eq, hc, not_false_iff, if_true]
    exact Evt.pure _
 ·simp only [if_neg h, h, not_false_iff, if_true]
  exact Evt.const (fun k => if_neg (by decide))
theorem rmake_ev (n0 : ByteArray) (a b c d e f x t k0 f0 : Int) (hsz : n0.size ≤ 100) : Evt (fun k => gangsawref30_Make.f k n0 a b c d e f x t k0 f0) (makeV n0 a b c d e f x t k0 f0) := by
 unfold gangsawref30_Make.f makeV
 refine Evt.bind0 (rcheck_f x t k0 f0) ?_
 by_cases h : okS x t k0 f0
 ·simp only [if_pos h, not_true, if_false, if_true, h]
  refine Evt.bind (name_ev n0 (by omega)) ?_
  cases hv : nameB n0 with
  | false => simp only [Bool.false_eq_true, if_false, if_true]; exact Evt.pure _
  | true =>
   simp only [if_true, Bool.true_eq_false, if_false]
   refine Evt.bind (rbox_ev a b c d e f) ?_
   by_cases hc : checkB a b c d e f = 0
   ·simp only [if_pos hc, hc, ne_eq, not_true, if_false]
    obtain ⟨n, hn, hk, hw, hn3, hD⟩ := dims_of hsz h hc
    have hA : ∀ u v w : Int, gangsawref06_At.f u v w x = some (at3 x u v w) := fun u v w => by
     unfold gangsawref06_At.f at3
     by_cases x0 : x = 0
     ·rw [if_pos x0, if_pos x0]
     ·rw [if_neg x0, if_neg x0]
      by_cases x1 : x = 1
      ·rw [if_pos x1, if_pos x1]
      ·rw [if_neg x1, if_neg x1]
    simp only [hA, Option.bind_some, hw]
    refine Evt.bind (rcount_ev x t k0 f0 _) ?_
    simp only [if_pos hk]
    rw [hn, Int.toNat_natCast]
    have hs := h
    unfold okS at hs
    have w1 : wrap64 (f0 + (n : Int)) = f0 + n := wrap_mid _ (by clear hw; omega) (by clear hw; omega)
    have w2 : wrap64 (f0 + (n : Int) - 1) = f0 + n - 1 := wrap_mid _ (by clear hw w1; omega) (by clear hw w1; omega)
    have e0 : ((n : Int) = 0) = (n = 0) := propext (by omega)
    have e1 : ((n : Int) > 256) = (256 < n) := propext (by omega)
    have e2 : (f0 + (n : Int) - 1 > 1000000) = (1000000 < f0 + (n : Int) - 1) := rfl
    simp only [e0, e1, w1, w2, e2]
    by_cases z0 : n = 0
    ·simp only [if_pos z0]; exact Evt.pure _
    by_cases z1 : 256 < n
    ·simp only [if_neg z0, if_pos z1]; exact Evt.pure _
    by_cases z2 : 1000000 < f0 + (n : Int) - 1
    ·simp only [if_neg z0, if_neg z1, if_pos z2]; exact Evt.pure _
    simp only [if_neg z0, if_neg z1, if_neg z2]
    have D := hD (by omega)
    cases hl : nameB (nm n0 (f0 + n - 1)) with
    | false =>
     simp only [if_true]
     exact rloop_bad D (by omega) hl 0 (by omega) [] rfl
    | true =>
     simp only [Bool.true_eq_false, if_false]
     have kn : ∀ i, i < n → nameB (nm n0 (f0 + (i : Nat))) = true := by
      intro i hi
      obtain ⟨p, hp⟩ := Int.eq_ofNat_of_zero_le (show 0 ≤ f0 + (i : Int) by omega)
      obtain ⟨q, hq⟩ := Int.eq_ofNat_of_zero_le (show 0 ≤ f0 + (n : Int) - 1 by omega)
      rw [hq, nm_name hv] at hl
      rw [hp, nm_name hv]
      have := of_decide_eq_true hl
      have hm := nDigits_mono p q (by omega)
      exact decide_eq_true (by omega)
     have := rloop_ok D kn 0 (by omega) [] rfl
     rw [Nat.sub_zero, List.nil_append, ← List.range_eq_range'] at this
     exact this
   ·simp only [if_neg hc, ne_eq, hc, not_false_iff, if_true]
    exact Evt.pure _
 ·simp only [if_neg h, h, not_false_iff, if_true]
  exact Evt.const (fun k => if_neg (by decide))
theorem make_cases (n0 : ByteArray) (a b c d e f x t k0 f0 : Int) : ((makeV n0 a b c d e f x t k0 f0).1 = [] ∧ (makeV n0 a b c d e f x t k0 f0).2.1 = []) ∨ ∃ n lo hi, n ≤ 256 ∧ (makeV n0 a b c d e f x t k0 f0).1 = slabsV n0 x a b c d e f lo t k0 f0 n ∧ (makeV n0 a b c d e f x t k0 f0).2.1 = restV x a b c d e f lo hi t k0 n := by
 unfold makeV
 by_cases h : ¬ okS x t k0 f0
 ·simp only [if_pos h]; exact .inl ⟨by first | rfl | trivial, by first | rfl | trivial⟩
 simp only [if_neg h]
 by_cases h : nameB n0 = false
 ·simp only [if_pos h]; exact .inl ⟨by first | rfl | trivial, by first | rfl | trivial⟩
 simp only [if_neg h]
 by_cases h : checkB a b c d e f ≠ 0
 ·simp only [if_pos h]; exact .inl ⟨by first | rfl | trivial, by first | rfl | trivial⟩
 simp only [if_neg h]
 generalize ((at3 x d e f - at3 x a b c + k0) / (t + k0)).toNat = n
 by_cases h : n = 0
 ·simp only [if_pos h]; exact .inl ⟨by first | rfl | trivial, by first | rfl | trivial⟩
 simp only [if_neg h]
 by_cases h3 : 256 < n
 ·simp only [if_pos h3]; exact .inl ⟨by first | rfl | trivial, by first | rfl | trivial⟩
 simp only [if_neg h3]
 by_cases h : 1000000 < f0 + (n : Int) - 1
 ·simp only [if_pos h]; exact .inl ⟨by first | rfl | trivial, by first | rfl | trivial⟩
 simp only [if_neg h]
 by_cases h : nameB (nm n0 (f0 + n - 1)) = false
 ·simp only [if_pos h]; exact .inl ⟨by first | rfl | trivial, by first | rfl | trivial⟩
 simp only [if_neg h]
 exact .inr ⟨n, at3 x a b c, at3 x d e f, by omega, by first | rfl | trivial, by first | rfl | trivial⟩
theorem makeV_len (n0 : ByteArray) (a b c d e f x t k0 f0 : Int) : (makeV n0 a b c d e f x t k0 f0).1.length ≤ 256 := by
 rcases make_cases n0 a b c d e f x t k0 f0 with h | ⟨n, lo, hi, h1, h2, h3⟩
 ·rw [h.1]; decide
 ·rw [h2]; unfold slabsV; simp; exact h1
theorem makeV_rows (n0 : ByteArray) (a b c d e f x t k0 f0 : Int) : ∀ s ∈ (makeV n0 a b c d e f x t k0 f0).1, s.f5.length ≤ 300 ∧ s.f6.length ≤ 300 := by
 rcases make_cases n0 a b c d e f x t k0 f0 with h | ⟨n, lo, hi, h1, h2, h3⟩
 ·rw [h.1]; intro s hs; cases hs
 ·rw [h2]; unfold slabsV; intro s hs
  obtain ⟨i, _, rfl⟩ := List.mem_map.1 hs
  exact ⟨by simp [slabV], by simp [slabV]⟩
theorem makeV_rest (n0 : ByteArray) (a b c d e f x t k0 f0 : Int) : (makeV n0 a b c d e f x t k0 f0).2.1.length ≤ 1 := by
 rcases make_cases n0 a b c d e f x t k0 f0 with h | ⟨n, lo, hi, h1, h2, h3⟩
 ·rw [h.2]; decide
 ·rw [h3]; unfold restV
  by_cases c0 : lo + n * (t + k0) < hi
  ·rw [if_pos c0]; exact Nat.le_refl _
  ·rw [if_neg c0]; decide
theorem sames_ev (l : List S35) (hl : l.length ≤ 256) (hr : ∀ s ∈ l, s.f5.length ≤ 300 ∧ s.f6.length ≤ 300) : Evt (fun k => gangsawref30_Same.f k l l) true := by
 unfold gangsawref30_Same.f
 simp only [if_true]
 have key : ∀ i, i ≤ l.length → Evt (fun k => gangsawref30_Same.l0 k l l (i : Nat)) true := by
  refine down ?_ ?_
  ·exact Evt.succ (g := fun _ => some true) (Evt.pure _) (fun k => by simp only [gangsawref30_Same.l0, Int.lt_irrefl, if_false])
  ·intro i hi ih
   have hm : rd_T35 l (i : Nat) ∈ l := by
    unfold rd_T35
    rw [getD_at l _ i hi]
    exact List.getElem_mem _
   generalize hs : rd_T35 l (i : Nat) = s at hm
   obtain ⟨r1, r2⟩ := hr s hm
   refine Evt.succ (g := fun k => (gangsawref30_Equal.f k s.f0 s.f1 s.f2 s.f3.f0.f0 s.f3.f0.f1 s.f3.f0.f2 s.f3.f1.f0 s.f3.f1.f1 s.f3.f1.f2 s.f4 s.f5 s.f6 s.f0 s.f1 s.f2 s.f3.f0.f0 s.f3.f0.f1 s.f3.f0.f2 s.f3.f1.f0 s.f3.f1.f1 s.f3.f1.f2 s.f4 s.f5 s.f6).bind fun v => if v = true then gangsawref30_Same.l0 k l l ((i + 1 : Nat) : Int) else some false) ?_ (fun k => ?_)
   ·refine Evt.bind (equal_ev s.f0 s.f1 s.f2 s.f3.f0.f0 s.f3.f0.f1 s.f3.f0.f2 s.f3.f1.f0 s.f3.f1.f1 s.f3.f1.f2 s.f4 s.f5 s.f6 r1 r2) ?_
    simp only [if_true]
    exact ih
   ·simp only [gangsawref30_Same.l0, hs, wrap_up i l.length hi (by omega)]
    rw [if_pos (by omega), if_pos (by omega), if_pos (by omega)]
 exact key 0 (by omega)
theorem sames06_ev (l : List S32) (hl : l.length ≤ 1) : Evt (fun k => gangsawref06_Same.f k l l) true := by
 unfold gangsawref06_Same.f
 simp only [if_true]
 have key : ∀ i, i ≤ l.length → Evt (fun k => gangsawref06_Same.l0 k l l (i : Nat)) true := by
  refine down ?_ ?_
  ·exact Evt.succ (g := fun _ => some true) (Evt.pure _) (fun k => by simp only [gangsawref06_Same.l0, Int.lt_irrefl, if_false])
  ·intro i hi ih
   refine Evt.succ ih (fun k => ?_)
   simp only [gangsawref06_Same.l0, beq_self_eq_true, Bool.not_true, Bool.or_false, wrap_up i l.length hi (by omega)]
   rw [if_pos (by omega), if_pos (by omega), if_pos (by omega)]
   rfl
 exact key 0 (by omega)
end Go.Proofs.YtnaahepnabmibaaGreatDoor.PMake
