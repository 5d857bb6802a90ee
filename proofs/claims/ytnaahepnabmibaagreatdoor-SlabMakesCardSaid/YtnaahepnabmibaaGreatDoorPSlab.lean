/-
 Slabs: plain facts of r30's printed functions, the program's and the reference's.
-/
import Derived.Test.YtnaahepnabmibaaGreatDoorEvt
import Derived.Test.YtnaahepnabmibaaGreatDoorSym
import Derived.Test.YtnaahepnabmibaaGreatDoorItoa
import Derived.Test.YtnaahepnabmibaaGreatDoorPName
import Derived.Lib.ItoaLen
import Derived.Test.YtnaahepnabmibaaGreatDoorM1
import Derived.Test.YtnaahepnabmibaaGreatDoorPx2
import Derived.Test.YtnaahepnabmibaaGreatDoorPx3
import Derived.Test.YtnaahepnabmibaaGreatDoorPx6
import Derived.Test.YtnaahepnabmibaaGreatDoorPx9
import Derived.Test.YtnaahepnabmibaaGreatDoorPx10
import Derived.Test.YtnaahepnabmibaaGreatDoorPx11
set_option linter.unusedVariables false
set_option linter.unusedSimpArgs false
namespace Go.Proofs.YtnaahepnabmibaaGreatDoor.PSlab
open Go.RowKit Go.Proofs.YtnaahepnabmibaaGreatDoorW.PrintWords Go.Proofs.YtnaahepnabmibaaGreatDoorW.PrintLast Go.Proofs.YtnaahepnabmibaaGreatDoor.P Go.Proofs.YtnaahepnabmibaaGreatDoor.Rnd Go.Proofs.YtnaahepnabmibaaGreatDoor.Awk Go.Proofs.YtnaahepnabmibaaGreatDoor.Sym Go.Proofs.YtnaahepnabmibaaGreatDoor.Lex Go.Proofs.YtnaahepnabmibaaGreatDoor.Itoa Go.Proofs.YtnaahepnabmibaaGreatDoor.PName
theorem ite_step {α : Type} {c : Prop} [Decidable c] {x y v : α} (h1 : c → x = v) (h2 : ¬ c → y = v) : ite c x y = v := by
 by_cases h : c
 ·rw [if_pos h]; exact h1 h
 ·rw [if_neg h]; exact h2 h
def okR (a b c d e f : Int) : Prop := (-1000000 ≤ a ∧ a ≤ 1000000) ∧ (-1000000 ≤ b ∧ b ≤ 1000000) ∧ (-1000000 ≤ c ∧ c ≤ 1000000) ∧ (-1000000 ≤ d ∧ d ≤ 1000000) ∧ (-1000000 ≤ e ∧ e ≤ 1000000) ∧ (-1000000 ≤ f ∧ f ≤ 1000000)
instance (a b c d e f : Int) : Decidable (okR a b c d e f) := by unfold okR; infer_instance
def checkB (a b c d e f : Int) : Int := if okR a b c d e f then (if a ≥ d then 1 else if b ≥ e then 1 else if c ≥ f then 1 else 0) else 6
theorem box_f (a b c d e f : Int) : box_Check.f a b c d e f = some (checkB a b c d e f) := by
 unfold box_Check.f checkB
 by_cases h : okR a b c d e f
 ·rw [if_pos h]
  unfold okR at h
  rw [if_pos (by omega), if_pos (by omega), if_pos (by omega), if_pos (by omega), if_pos (by omega), if_pos (by omega), if_pos (by omega), if_pos (by omega), if_pos (by omega), if_pos (by omega), if_pos (by omega), if_pos (by omega)]
  by_cases h1 : a ≥ d
  ·rw [if_pos h1, if_pos h1]
  rw [if_neg h1, if_neg h1]
  by_cases h2 : b ≥ e
  ·rw [if_pos h2, if_pos h2]
  rw [if_neg h2, if_neg h2]
  by_cases h3 : c ≥ f
  ·rw [if_pos h3, if_pos h3]
  rw [if_neg h3, if_neg h3]
 ·rw [if_neg h]
  unfold okR at h
  repeat' (refine ite_step (fun _ => ?_) (fun _ => ?_))
  all_goals first | rfl | (exfalso; omega)
theorem rbox_ev (a b c d e f : Int) : Evt (fun k => gangsawref06_Check.f k a b c d e f) (checkB a b c d e f) := by
 unfold gangsawref06_Check.f checkB
 have w1 : wrap64 ((0 : Int) + 1) = 1 := wrap_mid 1 (by decide) (by decide)
 have w2 : wrap64 ((1 : Int) + 1) = 2 := wrap_mid 2 (by decide) (by decide)
 have w3 : wrap64 ((2 : Int) + 1) = 3 := wrap_mid 3 (by decide) (by decide)
 have s3 : Evt (fun k => gangsawref06_Check.l1 k 3 a b c d e f) 0 := Evt.succ (g := fun _ => some 0) (Evt.pure _) (fun k => by simp only [gangsawref06_Check.l1]; rw [if_neg (by decide)])
 have s2 : Evt (fun k => gangsawref06_Check.l1 k 2 a b c d e f) (if c ≥ f then 1 else 0) := by
  by_cases h : c ≥ f
  ·rw [if_pos h]; exact Evt.succ (g := fun _ => some 1) (Evt.pure _) (fun k => by simp only [gangsawref06_Check.l1]; rw [if_pos (by decide)]; show (if c ≥ f then _ else _) = _; rw [if_pos h])
  ·rw [if_neg h]; exact Evt.succ s3 (fun k => by simp only [gangsawref06_Check.l1, w3]; rw [if_pos (by decide)]; show (if c ≥ f then _ else _) = _; rw [if_neg h])
 have s1 : Evt (fun k => gangsawref06_Check.l1 k 1 a b c d e f) (if b ≥ e then 1 else if c ≥ f then 1 else 0) := by
  by_cases h : b ≥ e
  ·rw [if_pos h]; exact Evt.succ (g := fun _ => some 1) (Evt.pure _) (fun k => by simp only [gangsawref06_Check.l1]; rw [if_pos (by decide)]; show (if b ≥ e then _ else _) = _; rw [if_pos h])
  ·rw [if_neg h]; exact Evt.succ s2 (fun k => by simp only [gangsawref06_Check.l1, w2]; rw [if_pos (by decide)]; show (if b ≥ e then _ else _) = _; rw [if_neg h])
 have s0 : Evt (fun k => gangsawref06_Check.l1 k 0 a b c d e f) (if a ≥ d then 1 else if b ≥ e then 1 else if c ≥ f then 1 else 0) := by
  by_cases h : a ≥ d
  ·rw [if_pos h]; exact Evt.succ (g := fun _ => some 1) (Evt.pure _) (fun k => by simp only [gangsawref06_Check.l1]; rw [if_pos (by decide)]; show (if a ≥ d then _ else _) = _; rw [if_pos h])
  ·rw [if_neg h]; exact Evt.succ s1 (fun k => by simp only [gangsawref06_Check.l1, w1]; rw [if_pos (by decide)]; show (if a ≥ d then _ else _) = _; rw [if_neg h])
 generalize (if a ≥ d then (1 : Int) else if b ≥ e then 1 else if c ≥ f then 1 else 0) = V at s0
 -- one round of the first loop
 have round : ∀ (i j : Int) (p q : Int) (v : Int), i < 3 → wrap64 (i + 1) = j → gangsawref06_At.f a b c i = some p → gangsawref06_At.f d e f i = some q → Evt (fun k => gangsawref06_Check.l0 k j a b c d e f) v →
   Evt (fun k => gangsawref06_Check.l0 k i a b c d e f) (if (-1000000 ≤ p ∧ p ≤ 1000000) ∧ (-1000000 ≤ q ∧ q ≤ 1000000) then v else 6) := by
  intro i j p q v hi hj hp hq hv
  by_cases h : (-1000000 ≤ p ∧ p ≤ 1000000) ∧ (-1000000 ≤ q ∧ q ≤ 1000000)
  ·rw [if_pos h]
   refine Evt.succ hv (fun k => ?_)
   simp only [gangsawref06_Check.l0, hp, hq, Option.bind_some, hj]
   rw [if_pos hi, if_neg (by omega), if_neg (by omega), if_neg (by omega), if_neg (by omega)]
  ·rw [if_neg h]
   refine Evt.succ (g := fun _ => some 6) (Evt.pure _) (fun k => ?_)
   simp only [gangsawref06_Check.l0, hp, hq, Option.bind_some]
   rw [if_pos hi]
   refine ite_step (fun _ => rfl) (fun h1 => ?_)
   refine ite_step (fun _ => rfl) (fun h2 => ?_)
   refine ite_step (fun _ => rfl) (fun h3 => ?_)
   refine ite_step (fun _ => rfl) (fun h4 => ?_)
   exfalso; omega
 have t3 : Evt (fun k => gangsawref06_Check.l0 k 3 a b c d e f) V := Evt.succ s0 (fun k => by simp only [gangsawref06_Check.l0]; rw [if_neg (by decide)])
 have t2 := round 2 3 c f V (by decide) w3 rfl rfl t3
 have t1 := round 1 2 b e _ (by decide) w2 rfl rfl t2
 have t0 := round 0 1 a d _ (by decide) w1 rfl rfl t1
 have e : (if (-1000000 ≤ a ∧ a ≤ 1000000) ∧ (-1000000 ≤ d ∧ d ≤ 1000000) then (if (-1000000 ≤ b ∧ b ≤ 1000000) ∧ (-1000000 ≤ e ∧ e ≤ 1000000) then (if (-1000000 ≤ c ∧ c ≤ 1000000) ∧ (-1000000 ≤ f ∧ f ≤ 1000000) then V else 6) else 6) else 6) = (if okR a b c d e f then V else 6) := by
  by_cases h : okR a b c d e f
  ·rw [if_pos h]; unfold okR at h; rw [if_pos (by omega), if_pos (by omega), if_pos (by omega)]
  ·rw [if_neg h]; unfold okR at h
   refine ite_step (fun _ => ?_) (fun _ => rfl)
   refine ite_step (fun _ => ?_) (fun _ => rfl)
   refine ite_step (fun _ => ?_) (fun _ => rfl)
   exfalso; omega
 rw [e] at t0
 exact t0
def okS (x t k f : Int) : Prop := 0 ≤ x ∧ x ≤ 2 ∧ 1 ≤ t ∧ t ≤ 1000 ∧ 0 ≤ k ∧ k ≤ 1000 ∧ 1 ≤ f ∧ f ≤ 1000000
instance (x t k f : Int) : Decidable (okS x t k f) := by unfold okS; infer_instance
theorem check_f (x t k f : Int) : slab_Check.f x t k f = some (if okS x t k f then 0 else 6) := by
 unfold slab_Check.f
 by_cases h : okS x t k f
 ·rw [if_pos h]
  unfold okS at h
  rw [if_neg (by omega), if_neg (by omega), if_neg (by omega), if_neg (by omega), if_neg (by omega), if_neg (by omega), if_neg (by omega), if_neg (by omega)]
 ·rw [if_neg h]
  unfold okS at h
  by_cases h1 : x < 0
  ·rw [if_pos h1]
  rw [if_neg h1]
  by_cases h2 : x > 2
  ·rw [if_pos h2]
  rw [if_neg h2]
  by_cases h3 : t < 1
  ·rw [if_pos h3]
  rw [if_neg h3]
  by_cases h4 : t > 1000
  ·rw [if_pos h4]
  rw [if_neg h4]
  by_cases h5 : k < 0
  ·rw [if_pos h5]
  rw [if_neg h5]
  by_cases h6 : k > 1000
  ·rw [if_pos h6]
  rw [if_neg h6]
  by_cases h7 : f < 1
  ·rw [if_pos h7]
  rw [if_neg h7, if_pos (by omega)]
def okC (x t k f l : Int) : Prop := okS x t k f ∧ 1 ≤ l ∧ l ≤ 2000000
instance (x t k f l : Int) : Decidable (okC x t k f l) := by unfold okC; infer_instance
theorem count_f (x t k f l : Int) : slab_Count.f x t k f l = some (if okC x t k f l then ((l + k) / (t + k), 0) else (0, 6)) := by
 unfold slab_Count.f
 rw [check_f, Option.bind_some]
 by_cases h : okS x t k f
 ·rw [if_pos h, if_pos rfl]
  by_cases h1 : l < 1
  ·rw [if_pos h1, if_neg (by unfold okC; omega)]
  rw [if_neg h1]
  by_cases h2 : l > 2000000
  ·rw [if_pos h2, if_neg (by unfold okC; omega)]
  rw [if_neg h2, if_pos (show okC x t k f l from ⟨h, by omega, by omega⟩)]
  unfold okS at h
  rw [wrap_mid (t + k) (by omega) (by omega), wrap_mid (l + k) (by omega) (by omega), if_neg (by omega), Int.tdiv_eq_ediv_of_nonneg (by omega)]
  have h3 : 0 ≤ (l + k) / (t + k) := Int.ediv_nonneg (by omega) (by omega)
  have h4 : (l + k) / (t + k) ≤ l + k := Int.ediv_le_self _ (by omega)
  rw [wrap_mid _ (by omega) (by omega)]
 ·rw [if_neg h, if_neg (by decide), if_neg (fun h2 => h h2.1)]
theorem same_ev (l : List Int) (h : l.length ≤ 300) : Evt (fun k => gangsawref30_same.f k l l) true := by
 unfold gangsawref30_same.f
 simp only [if_true]
 have key : ∀ i, i ≤ l.length → Evt (fun k => gangsawref30_same.l0 k l l (i : Nat)) true := by
  refine down ?_ ?_
  ·exact Evt.succ (g := fun _ => some true) (Evt.pure _) (fun k => by simp only [gangsawref30_same.l0, Int.lt_irrefl, if_false])
  ·intro i hi ih
   refine Evt.succ ih (fun k => ?_)
   simp only [gangsawref30_same.l0, if_true, wrap_up i l.length hi (by omega)]
   rw [if_pos (by omega), if_pos (by omega), if_pos (by omega)]
 exact key 0 (by omega)
theorem equal_ev (n0 n1 : ByteArray) (m a b c d e f g : Int) (l1 l2 : List Int) (h1 : l1.length ≤ 300) (h2 : l2.length ≤ 300) : Evt (fun k => gangsawref30_Equal.f k n0 n1 m a b c d e f g l1 l2 n0 n1 m a b c d e f g l1 l2) true := by
 unfold gangsawref30_Equal.f
 simp only [if_true, beq_self_eq_true, Bool.and_self]
 refine Evt.bind (same_ev l1 h1) ?_
 simp only [if_true]
 exact Evt.bind (same_ev l2 h2) (Evt.pure _)
theorem in_f (a l h : Int) : gangsawref30_in.f a l h = some (decide (l ≤ a ∧ a ≤ h)) := by
 unfold gangsawref30_in.f
 by_cases c : l ≤ a
 ·rw [if_pos c]; simp [c]
 ·rw [if_neg c]; simp [c]
theorem rcheck_f (x t k f : Int) : gangsawref30_Check.f x t k f = some (if okS x t k f then 0 else 6) := by
 unfold gangsawref30_Check.f
 simp only [in_f, Option.bind_some, decide_eq_true_eq]
 by_cases h : okS x t k f
 ·rw [if_pos h]
  unfold okS at h
  rw [if_pos (by omega), if_pos (by omega), if_pos (by omega), if_pos (by omega)]
 ·rw [if_neg h]
  unfold okS at h
  repeat' (refine ite_step (fun _ => ?_) (fun _ => ?_))
  all_goals first | rfl | (exfalso; omega)
theorem rcount_ev (x t k0 f l : Int) : Evt (fun k => gangsawref30_Count.f k x t k0 f l) (if okC x t k0 f l then ((l + k0) / (t + k0), 0) else (0, 6)) := by
 unfold gangsawref30_Count.f
 refine Evt.bind0 (rcheck_f x t k0 f) ?_
 by_cases h : okS x t k0 f
 ·simp only [if_pos h, if_true, in_f, Option.bind_some]
  by_cases hl : 1 ≤ l ∧ l ≤ 2000000
  ·rw [if_pos (show okC x t k0 f l from ⟨h, hl.1, hl.2⟩)]
   refine Evt.succ (g := fun k => gangsawref30_Count.l0 k l 0 x t k0 f) ?_ (fun k => by simp only [gangsawref30_Count.j0, decide_eq_true hl, Bool.not_true, Bool.false_eq_true, if_false])
   unfold okS at h
   obtain ⟨p, hp⟩ : ∃ p, t + k0 = p := ⟨_, rfl⟩
   obtain ⟨n, hn⟩ : ∃ n : Nat, (l + k0) / p = (n : Int) := ⟨((l + k0) / p).toNat, by have := Int.ediv_nonneg (show 0 ≤ l + k0 by omega) (show 0 ≤ p by omega); omega⟩
   have hpp : 0 < p := by omega
   have n1 : (n : Int) * p ≤ l + k0 := by rw [← hn]; exact Int.ediv_mul_le _ (by omega)
   have n2 : l + k0 < ((n : Int) + 1) * p := by rw [← hn]; exact Int.lt_ediv_add_one_mul_self _ hpp
   rw [Int.add_mul, Int.one_mul] at n2
   have n3 : (n : Int) ≤ n * p := by
    have := Int.mul_le_mul_of_nonneg_left (show 1 ≤ p by omega) (show (0 : Int) ≤ n by omega)
    omega
   rw [hp, hn]
   have key : ∀ i, i ≤ n → Evt (fun k => gangsawref30_Count.l0 k l (i : Nat) x t k0 f) ((n : Int), 0) := by
    refine down ?_ ?_
    ·refine Evt.succ (g := fun _ => some ((n : Int), 0)) (Evt.pure _) (fun k => ?_)
     simp only [gangsawref30_Count.l0]
     rw [hp, wrap_mid p (by omega) (by omega), wrap_mid ((n : Int) * p) (by omega) (by omega), wrap_mid (n * p + t) (by omega) (by omega), if_neg (by omega)]
    ·intro i hi ih
     refine Evt.succ ih (fun k => ?_)
     simp only [gangsawref30_Count.l0]
     have hm : ((i : Int) + 1) * p ≤ n * p := Int.mul_le_mul_of_nonneg_right (by omega) (by omega)
     have hm0 : 0 ≤ (i : Int) * p := Int.mul_nonneg (by omega) (by omega)
     rw [Int.add_mul, Int.one_mul] at hm
     rw [hp, wrap_mid p (by omega) (by omega), wrap_mid ((i : Int) * p) (by omega) (by omega), wrap_mid (i * p + t) (by omega) (by omega), if_pos (by omega), wrap_up i n hi (by omega)]
   exact key 0 (by omega)
  ·rw [if_neg (fun c => hl c.2)]
   exact Evt.succ (g := fun _ => some (0, 6)) (Evt.pure _) (fun k => by simp only [gangsawref30_Count.j0, decide_eq_false hl, Bool.not_false, if_true])
 ·simp only [if_neg h, if_neg (show ¬ okC x t k0 f l from fun c => h c.1)]
  exact Evt.of_eq (g := fun k => gangsawref30_Count.j0 k l true x t k0 f) (Evt.succ (g := fun _ => some (0, 6)) (Evt.pure _) (fun k => by simp only [gangsawref30_Count.j0, if_true])) (fun k => if_neg (by decide))
theorem nDigits_mono : ∀ (u v : Nat), u ≤ v → Lib.nDigits u ≤ Lib.nDigits v := by
 intro u
 induction u using Nat.strongRecOn with
 | ind u ih =>
  intro v h
  by_cases hu : u < 10
  ·rw [Lib.nDigits_small hu]; exact Lib.nDigits_pos v
  ·rw [Lib.nDigits_big hu, Lib.nDigits_big (show ¬ v < 10 by omega)]
   have := ih (u / 10) (by omega) (v / 10) (Nat.div_le_div_right h)
   omega
theorem dec_size (m : Nat) : (decI (m : Int)).size = Lib.nDigits m := by
 show (Lib.itoa (m : Int)).toArray.size = _
 rw [List.size_toArray]
 unfold Lib.itoa
 rw [if_neg (by omega)]
 exact Lib.decDigits_length _
theorem dec_digit (m : Nat) (i : Nat) (h : i < (decI (m : Int)).size) : 48 ≤ ((decI (m : Int))[i]).toNat ∧ ((decI (m : Int))[i]).toNat ≤ 57 := by
 have e : (decI (m : Int))[i] = (Lib.decDigits m)[i]'(by rw [Lib.decDigits_length, ← dec_size]; exact h) := by
  have h1 : Lib.itoa (m : Int) = Lib.decDigits m := by unfold Lib.itoa; rw [if_neg (by omega)]; rfl
  show (Lib.itoa (m : Int)).toArray[i] = _
  simp [h1]
 rw [e]
 simp only [Lib.decDigits_eq, List.getElem_map, Lib.dg]
 have : m / 10 ^ (Lib.nDigits m - 1 - (List.range (Lib.nDigits m))[i]'(by simp; rw [← dec_size]; exact h)) % 10 < 10 := Nat.mod_lt _ (by decide)
 generalize m / 10 ^ (Lib.nDigits m - 1 - (List.range (Lib.nDigits m))[i]'(by simp; rw [← dec_size]; exact h)) % 10 = d at this
 simp only [UInt8.toNat_ofNat']
 omega
def nm (b : ByteArray) (m : Int) : ByteArray := (b ++ (⟨#[95]⟩ : ByteArray)) ++ decI m
theorem nm_size (b : ByteArray) (m : Nat) : (nm b m).size = b.size + 1 + Lib.nDigits m := by
 unfold nm
 rw [ByteArray.size_append, ByteArray.size_append, dec_size]
 rfl
theorem bt_get (s : ByteArray) (i : Nat) (h : i < s.size) : bt s i = ((s[i]).toNat : Int) := by
 unfold bt
 rw [dif_pos (by simpa using h)]
 rfl
theorem bt_app (a b : ByteArray) (i : Nat) (h : i < (a ++ b).size) : bt (a ++ b) i = if i < a.size then bt a i else bt b ((i - a.size : Nat) : Int) := by
 rw [bt_get _ i h]
 by_cases c : i < a.size
 ·rw [if_pos c, bt_get a i c, ByteArray.getElem_append_left c]
 ·have h2 : i - a.size < b.size := by rw [ByteArray.size_append] at h; omega
  rw [if_neg c, bt_get b _ h2, ByteArray.getElem_append_right (by omega)]
theorem bt_nm (b : ByteArray) (m i : Nat) (h : i < (nm b m).size) : bt (nm b m) i = if i < b.size then bt b i else if i = b.size then 95 else bt (decI (m : Int)) ((i - (b.size + 1) : Nat) : Int) := by
 have hs : (b ++ (⟨#[95]⟩ : ByteArray)).size = b.size + 1 := by rw [ByteArray.size_append]; rfl
 show bt ((b ++ (⟨#[95]⟩ : ByteArray)) ++ decI m) i = _
 rw [bt_app _ _ i h, hs]
 by_cases c : i < b.size
 ·rw [if_pos (by omega), if_pos c, bt_app _ _ i (by rw [hs]; omega), if_pos c]
 ·rw [if_neg c]
  by_cases c2 : i = b.size
  ·rw [if_pos (by omega), if_pos c2, bt_app _ _ i (by rw [hs]; omega), if_neg c]
   subst c2
   rw [Nat.sub_self]
   decide +kernel
  ·rw [if_neg (by omega), if_neg c2]
theorem name_any {b : ByteArray} (h : nameB b = true) : (List.range' 0 (b.size - 0)).any (badB b) = false ∧ 1 ≤ b.size ∧ b.size ≤ 24 := by
 rw [name_eq] at h
 by_cases c : (List.range' 0 (b.size - 0)).any (badB b) = true
 ·rw [if_pos c] at h; cases h
 ·rw [if_neg c] at h
  exact ⟨by simpa using c, of_decide_eq_true h⟩
theorem nm_name {b : ByteArray} (hb : nameB b = true) (m : Nat) : nameB (nm b m) = decide (b.size + 1 + Lib.nDigits m ≤ 24) := by
 obtain ⟨ha, h1, h2⟩ := name_any hb
 rw [name_eq]
 have key : (List.range' 0 ((nm b m).size - 0)).any (badB (nm b m)) = false := by
  rw [Bool.eq_false_iff]
  intro c
  obtain ⟨i, hi, hc⟩ := List.any_eq_true.1 c
  have hi2 : i < (nm b m).size := by simpa using hi
  have hsz := nm_size b m
  have e := bt_nm b m i hi2
  by_cases c1 : i < b.size
  ·rw [if_pos c1] at e
   have hz : badB (nm b m) i = badB b i := by unfold badB; rw [e]
   rw [hz] at hc
   have : (List.range' 0 (b.size - 0)).any (badB b) = true := List.any_eq_true.2 ⟨i, by simpa using c1, hc⟩
   rw [ha] at this; cases this
  ·have hz : (i == 0) = false := by simp; omega
   rw [if_neg c1] at e
   by_cases c2 : i = b.size
   ·rw [if_pos c2] at e
    unfold badB at hc
    rw [e, hz] at hc
    revert hc; decide
   ·rw [if_neg c2] at e
    have hd : i - (b.size + 1) < (decI (m : Int)).size := by rw [dec_size]; omega
    rw [bt_get _ _ hd] at e
    have hg := dec_digit m _ hd
    unfold badB at hc
    rw [e, hz] at hc
    generalize ((decI (m : Int))[i - (b.size + 1)]).toNat = v at hc hg
    unfold partB at hc
    have g1 : decide ((48 : Int) ≤ (v : Int)) = true := decide_eq_true (by omega)
    have g2 : decide ((v : Int) ≤ 57) = true := decide_eq_true (by omega)
    have g3 : decide ((65 : Int) ≤ (v : Int)) = false := decide_eq_false (by omega)
    rw [g1, g2, g3] at hc
    simp at hc
 rw [key, if_neg (by decide)]
 rw [nm_size]
 congr 1
 apply propext
 constructor <;> intro h <;> omega
end Go.Proofs.YtnaahepnabmibaaGreatDoor.PSlab
