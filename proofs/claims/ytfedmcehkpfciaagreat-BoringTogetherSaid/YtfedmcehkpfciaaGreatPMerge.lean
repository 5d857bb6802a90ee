/-
 Merging two borings, in plain terms.
-/
import Derived.Test.YtfedmcehkpfciaaGreatPBoring
import Derived.Test.YtfedmcehkpfciaaGreatSort
import Derived.Test.YtfedmcehkpfciaaGreatGrow
import Derived.Lib.SlicesCompact
import Derived.Test.YtfedmcehkpfciaaGreatPx28
import Derived.Test.YtfedmcehkpfciaaGreatPx24
import Derived.Test.YtfedmcehkpfciaaGreatPx23
set_option linter.unusedVariables false
set_option linter.unusedSimpArgs false
namespace Go.Proofs.YtfedmcehkpfciaaGreat.PMerge
open Go.RowKit Go.Proofs.YtfedmcehkpfciaaGreatW.PrintWords Go.Proofs.YtfedmcehkpfciaaGreatW.PrintLast Go.Proofs.YtfedmcehkpfciaaGreat.P Go.Proofs.YtfedmcehkpfciaaGreat.Rnd Go.Proofs.YtfedmcehkpfciaaGreat.Lex Go.Proofs.YtfedmcehkpfciaaGreat.PName Go.Proofs.YtfedmcehkpfciaaGreat.Hof Go.Proofs.YtfedmcehkpfciaaGreat.Sym Go.Proofs.YtfedmcehkpfciaaGreat.Sort Go.Proofs.YtfedmcehkpfciaaGreat.Grow Go.Proofs.YtfedmcehkpfciaaGreat.PBoring
abbrev le (x y : Int) : Bool := decide (x ≤ y)
theorem isortL (l : List Int) : (isort le l).Pairwise (· ≤ ·) := by
 have := isort_sorted (le := le) (fun a b c h1 h2 => by simp only [decide_eq_true_eq] at *; omega) (fun a b => by simp only [Bool.or_eq_true, decide_eq_true_eq]; omega) l
 exact this.imp (fun h => by simpa using h)
theorem isort_len (l : List Int) : (isort le l).length = l.length := (isort_perm l).length_eq
def dd : List Int → List Int
 | [] => []
 | [x] => [x]
 | x :: y :: r => if x = y then dd (y :: r) else x :: dd (y :: r)
theorem dd_mem : ∀ (l : List Int) (x : Int), x ∈ dd l ↔ x ∈ l
 | [], x => Iff.rfl
 | [_], x => Iff.rfl
 | a :: b :: r, x => by
  unfold dd
  by_cases h : a = b
  ·rw [if_pos h, dd_mem (b :: r) x, h]; simp
  ·rw [if_neg h, List.mem_cons, dd_mem (b :: r) x]; simp
theorem dd_strict : ∀ (l : List Int), l.Pairwise (· ≤ ·) → (dd l).Pairwise (· < ·)
 | [], _ => List.Pairwise.nil
 | [x], _ => by simp [dd]
 | a :: b :: r, h => by
  unfold dd
  have h2 : (b :: r).Pairwise (· ≤ ·) := (List.pairwise_cons.1 h).2
  by_cases e : a = b
  ·rw [if_pos e]; exact dd_strict (b :: r) h2
  ·rw [if_neg e, List.pairwise_cons]
   refine ⟨fun x hx => ?_, dd_strict (b :: r) h2⟩
   have hb : a ≤ b := (List.pairwise_cons.1 h).1 b (by simp)
   rcases List.mem_cons.1 ((dd_mem (b :: r) x).1 hx) with rfl | hx
   ·omega
   ·have := (List.pairwise_cons.1 h2).1 x hx; omega
theorem strict_unique {a b : List Int} (ha : a.Pairwise (· < ·)) (hb : b.Pairwise (· < ·)) (h : ∀ x, x ∈ a ↔ x ∈ b) : a = b := by
 have na : a.Nodup := ha.imp (fun {x y} hxy e => by omega)
 have nb : b.Nodup := hb.imp (fun {x y} hxy e => by omega)
 exact List.Perm.eq_of_pairwise (fun x y _ _ h1 h2 => by omega) ha hb ((List.perm_ext_iff_of_nodup na nb).2 h)
theorem get_le {zs : List Int} (hs : zs.Pairwise (· ≤ ·)) {i j : Nat} (hij : i ≤ j) (hj : j < zs.length) : zs[i] ≤ zs[j] := by
 rcases Nat.lt_or_ge i j with h | h
 ·exact List.pairwise_iff_getElem.1 hs i j (by omega) hj h
 ·obtain rfl : i = j := by omega
  exact Int.le_refl _
theorem compact_strict (zs : List Int) (hs : zs.Pairwise (· ≤ ·)) : (Lib.compact zs).Pairwise (· < ·) ∧ ∀ x, x ∈ Lib.compact zs ↔ x ∈ zs := by
 have hget : ∀ i (h : i < zs.length), zs.toArray[i]! = zs[i] := fun i h => by simp [h]
 unfold Lib.compact Lib.compactUpTo
 constructor
 ·rw [List.pairwise_map]
  refine List.Pairwise.imp_of_mem ?_ ((List.pairwise_lt_range (n := zs.length)).filter _)
  intro i j hi hj hij
  have hjl : j < zs.length := List.mem_range.1 (List.mem_filter.1 hj).1
  have hk := (List.mem_filter.1 hj).2
  unfold Lib.keeps at hk
  rw [decide_eq_true_eq] at hk
  rcases hk with h0 | hne
  ·omega
  ·rw [hget j hjl, hget (j - 1) (by omega)] at hne
   rw [hget i (by omega), hget j hjl]
   have h1 : zs[i] ≤ zs[j - 1] := get_le hs (by omega) (by omega)
   have h2 : zs[j - 1] ≤ zs[j] := get_le hs (by omega) hjl
   omega
 ·intro x
  constructor
  ·intro h
   obtain ⟨i, hi, rfl⟩ := List.mem_map.1 h
   have hil : i < zs.length := List.mem_range.1 (List.mem_filter.1 hi).1
   rw [hget i hil]
   exact List.getElem_mem _
  ·intro h
   obtain ⟨i, hi, rfl⟩ := List.mem_iff_getElem.1 h
   have key : ∀ i (hi : i < zs.length), zs[i] ∈ ((List.range zs.length).filter (Lib.keeps zs.toArray)).map (zs.toArray[·]!) := by
    intro i
    induction i with
    | zero =>
     intro hi
     refine List.mem_map.2 ⟨0, List.mem_filter.2 ⟨List.mem_range.2 hi, by simp [Lib.keeps]⟩, hget 0 hi⟩
    | succ i ih =>
     intro hi
     cases hk : Lib.keeps zs.toArray (i + 1) with
     | true => exact List.mem_map.2 ⟨i + 1, List.mem_filter.2 ⟨List.mem_range.2 hi, hk⟩, hget _ hi⟩
     | false =>
      unfold Lib.keeps at hk
      rw [decide_eq_false_iff_not] at hk
      have e : zs.toArray[i + 1]! = zs.toArray[i + 1 - 1]! := Classical.byContradiction (fun c => hk (.inr c))
      rw [hget _ hi, show i + 1 - 1 = i from rfl, hget i (by omega)] at e
      rw [e]
      exact ih (by omega)
   exact key i hi
theorem compact_dd (zs : List Int) (hs : zs.Pairwise (· ≤ ·)) : Lib.compact zs = dd zs := by
 obtain ⟨h1, h2⟩ := compact_strict zs hs
 exact strict_unique h1 (dd_strict zs hs) (fun x => by rw [h2, dd_mem])
def fl (x : Lg) : List Int := [x.f0, x.f1]
def cf (s t : Int) : Bool := if s = 0 then false else if t = 0 then false else s != t
def mgP (S T : Int → Int) : List Int → List Lg → Option (List Lg)
 | z1 :: z2 :: r, acc => if cf (S z1) (T z1) = true then none else mgP S T (z2 :: r) (if mx (S z1) (T z1) = 0 then acc else acc ++ [⟨z1, z2, mx (S z1) (T z1)⟩])
 | _, acc => some acc
def mgR (S T : Int → Int) : List Int → List Lg → Option (List Lg)
 | z1 :: z2 :: r, acc => if z1 = z2 then mgR S T (z2 :: r) acc else if cf (S z1) (T z1) = true then none else mgR S T (z2 :: r) (if S z1 = 0 then (if T z1 = 0 then acc else acc ++ [⟨z1, z2, T z1⟩]) else acc ++ [⟨z1, z2, S z1⟩])
 | _, acc => some acc
def fin (n0 : ByteArray) (a b : Int) : Option (List Lg) → ByteArray × Int × Int × List Lg × Int
 | none => (⟨#[]⟩, 0, 0, [], 10)
 | some L => (n0, a, b, joinV L, 0)
theorem mx_zero {t : Int} (h : 0 ≤ t) : mx 0 t = t := by unfold mx; by_cases c : (0 : Int) < t; rw [if_pos c]; rw [if_neg c]; omega
theorem mx_zero' {t : Int} (h : 0 ≤ t) : mx t 0 = t := by unfold mx; rw [if_neg (by omega)]
theorem mx_self (t : Int) : mx t t = t := by unfold mx; rw [if_neg (by omega)]
theorem mgR_cons {S T : Int → Int} (hS : ∀ z, 0 ≤ S z) (hT : ∀ z, 0 ≤ T z) : ∀ (Z : List Int) (acc : List Lg), mgR S T Z acc = mgP S T (dd Z) acc
 | [], _ => rfl
 | [_], _ => rfl
 | x :: y :: r, acc => by
  unfold mgR
  by_cases h : x = y
  ·rw [if_pos h, mgR_cons hS hT (y :: r) acc]
   have : dd (x :: y :: r) = dd (y :: r) := by rw [dd, if_pos h]
   rw [this]
  ·rw [if_neg h]
   have hd : dd (x :: y :: r) = x :: dd (y :: r) := by rw [dd, if_neg h]
   obtain ⟨r', hr'⟩ : ∃ r', dd (y :: r) = y :: r' := by
    clear hd h
    induction r with
    | nil => exact ⟨[], rfl⟩
    | cons z r ih =>
     by_cases e : y = z
     ·rw [dd, if_pos e]; subst e; exact ih
     ·rw [dd, if_neg e]; exact ⟨_, rfl⟩
   rw [hd, hr', mgP, ← hr']
   cases hc : cf (S x) (T x) with
   | true => rfl
   | false =>
    simp only [Bool.false_eq_true, if_false]
    rw [mgR_cons hS hT (y :: r)]
    congr 1
    unfold cf at hc
    by_cases s0 : S x = 0
    ·rw [if_pos s0, s0, mx_zero (hT x)]
    ·rw [if_neg s0] at hc ⊢
     by_cases t0 : T x = 0
     ·rw [t0, mx_zero' (hS x), if_neg s0]
     ·rw [if_neg t0] at hc
      have : S x = T x := by simpa using hc
      rw [← this, mx_self, if_neg s0]
theorem stV_nonneg (z : Int) : ∀ l : List Lg, l.any bad1 = false → 0 ≤ stV z l
 | [], _ => by unfold stV; omega
 | x :: r, h => by
  rw [List.any_cons, Bool.or_eq_false_iff] at h
  unfold stV
  by_cases h1 : x.f0 ≤ z
  ·rw [if_pos h1]
   by_cases h2 : z < x.f1
   ·rw [if_pos h2]
    have := h.1
    unfold bad1 at this
    by_cases e1 : x.f2 = 1
    ·omega
    ·by_cases e2 : x.f2 = 2
     ·omega
     ·simp [e1, e2] at this
   ·rw [if_neg h2]; exact stV_nonneg z r h.2
  ·rw [if_neg h1]; exact stV_nonneg z r h.2
theorem formed_any {n0 : ByteArray} {a b : Int} {l : List Lg} (h : formedV n0 a b l = 0) : l.any bad1 = false ∧ l.length ≤ 64 := by
 unfold formedV at h
 by_cases h1 : nameB n0 = false
 ·rw [if_pos h1] at h; omega
 rw [if_neg h1] at h
 by_cases h2 : 64 < l.length
 ·rw [if_pos h2] at h; omega
 rw [if_neg h2] at h
 by_cases h3 : l.any bad1 = true
 ·rw [if_pos h3] at h; omega
 exact ⟨by simpa using h3, by omega⟩
theorem merge_l2 (n0 : ByteArray) (a b : Int) (la : List Lg) (m0 : ByteArray) (c d : Int) (lb : List Lg) (ha : la.length ≤ 70) (hb : lb.length ≤ 70) (U : List Int) (hU : U.length ≤ 90000) : ∀ i, i ≤ U.length → ∀ acc : List Lg, acc.length ≤ i → Evt (fun k => boring_Merge.l2 k U acc ((i + 1 : Nat) : Int) n0 a b la m0 c d lb) (fin n0 a b (mgP (fun z => stV z la) (fun z => stV z lb) (U.drop i) acc)) := by
 refine down (P := fun i => ∀ acc : List Lg, acc.length ≤ i → Evt (fun k => boring_Merge.l2 k U acc ((i + 1 : Nat) : Int) n0 a b la m0 c d lb) (fin n0 a b (mgP (fun z => stV z la) (fun z => stV z lb) (U.drop i) acc))) ?_ ?_
 ·intro acc hacc
  rw [List.drop_length]
  have c0 : ¬ ((U.length + 1 : Nat) : Int) < (U.length : Int) := by omega
  refine Evt.succ (g := fun k => (boring_joined.f k acc).bind fun t => some (n0, a, b, t, 0)) ?_ (fun k => by simp only [boring_Merge.l2, if_neg c0])
  exact Evt.bind (joined_ev acc (by omega)) (Evt.pure _)
 ·intro i hi ih acc hacc
  rw [List.drop_eq_getElem_cons hi]
  by_cases h1 : i + 1 < U.length
  ·have hdr : U.drop (i + 1) = U[i + 1] :: U.drop (i + 2) := List.drop_eq_getElem_cons h1
   have r0 : rd U ((i : Nat) : Int) = U[i] := getD_at U _ i hi
   have r1 : rd U ((i + 1 : Nat) : Int) = U[i + 1] := getD_at U _ (i + 1) h1
   have c0 : ((i + 1 : Nat) : Int) < (U.length : Int) := by omega
   have e1 : Unit → wrap64 (((i + 1 : Nat) : Int) - 1) = ((i : Nat) : Int) := fun _ => by rw [wrap_mid _ (by omega) (by omega)]; omega
   have e2 : Unit → wrap64 (((i + 1 : Nat) : Int) + 1) = ((i + 1 + 1 : Nat) : Int) := fun _ => wrap_up (i + 1) U.length h1 (by omega)
   have c1 : (0 : Int) ≤ ((i : Nat) : Int) := by omega
   have c2 : ((i : Nat) : Int) < (U.length : Int) := by omega
   have c3 : (0 : Int) ≤ ((i + 1 : Nat) : Int) := by omega
   have c4 : acc.length < 5864062014805 := by omega
   rw [hdr, mgP, ← hdr]
   obtain ⟨s, hs⟩ : ∃ s, stV U[i] la = s := ⟨_, rfl⟩
   obtain ⟨t, ht⟩ : ∃ t, stV U[i] lb = t := ⟨_, rfl⟩
   simp only [hs, ht]
   have hj : Evt (fun k => boring_Merge.j3 k U acc ((i + 1 : Nat) : Int) s t (cf s t) n0 a b la m0 c d lb) (fin n0 a b (if cf s t = true then none else mgP (fun z => stV z la) (fun z => stV z lb) (U.drop (i + 1)) (if mx s t = 0 then acc else acc ++ [⟨U[i], U[i + 1], mx s t⟩]))) := by
    cases hc : cf s t with
    | true => exact Evt.succ (g := fun _ => some _) (Evt.pure _) (fun k => by simp only [boring_Merge.j3, if_true]; rfl)
    | false =>
     simp only [Bool.false_eq_true, if_false]
     by_cases hm : mx s t = 0
     ·have := ih acc (by omega)
      rw [if_pos hm]
      exact Evt.succ this (fun k => by simp only [boring_Merge.j3, Bool.false_eq_true, if_false, if_pos hm, e2 ()])
     ·have := ih (acc ++ [⟨U[i], U[i + 1], mx s t⟩]) (by simp; omega)
      rw [if_neg hm]
      exact Evt.succ this (fun k => by simp only [boring_Merge.j3, Bool.false_eq_true, if_false, if_neg hm, e1 (), if_pos c1, if_pos c2, if_pos c3, if_pos c0, if_pos c4, r0, r1, e2 ()])
   refine Evt.succ (g := fun k => (boring_State.f k n0 a b la U[i]).bind fun x => (boring_State.f k m0 c d lb U[i]).bind fun y => boring_Merge.j3 k U acc ((i + 1 : Nat) : Int) x y (cf x y) n0 a b la m0 c d lb) ?_ (fun k => ?_)
   ·refine Evt.bind (state_ev n0 a b la U[i] (by omega)) (Evt.bind (state_ev m0 c d lb U[i] (by omega)) ?_)
    rw [hs, ht]; exact hj
   ·simp only [boring_Merge.l2, if_pos c0, e1 (), if_pos c1, if_pos c2, r0]
    congr 1; funext x
    congr 1; funext y
    unfold cf
    by_cases x0 : x = 0
    ·rw [if_pos x0, if_pos x0]
    ·rw [if_neg x0, if_neg x0]
     by_cases y0 : y = 0
     ·rw [if_pos y0, if_pos y0]
     ·rw [if_neg y0, if_neg y0]
  ·have hdr : U.drop (i + 1) = [] := List.drop_eq_nil_of_le (by omega)
   rw [hdr]
   have c0 : ¬ ((i + 1 : Nat) : Int) < (U.length : Int) := by omega
   refine Evt.succ (g := fun k => (boring_joined.f k acc).bind fun t => some (n0, a, b, t, 0)) ?_ (fun k => by simp only [boring_Merge.l2, if_neg c0])
   exact Evt.bind (joined_ev acc (by omega)) (Evt.pure _)
end Go.Proofs.YtfedmcehkpfciaaGreat.PMerge
