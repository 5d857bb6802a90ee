/-
 Merging two borings, in plain terms.
-/
import Derived.Test.YtfedmcehkpfciaaGreatPBoring
import Derived.Test.YtfedmcehkpfciaaGreatSort
import Derived.Test.YtfedmcehkpfciaaGreatGrow
import Derived.Lib.SlicesCompact
import Derived.Test.YtfedmcehkpfciaaGreatPx28
import Derived.Test.YtfedmcehkpfciaaGreatPx24
import Derived.Test.YtfedmcehkpfciaaGreatPx23
set_option linter.unusedVariables false
set_option linter.unusedSimpArgs false
namespace Go.Proofs.YtfedmcehkpfciaaGreat.PMerge
open Go.RowKit Go.Proofs.YtfedmcehkpfciaaGreatW.PrintWords Go.Proofs.YtfedmcehkpfciaaGreatW.PrintLast Go.Proofs.YtfedmcehkpfciaaGreat.P Go.Proofs.YtfedmcehkpfciaaGreat.Rnd Go.Proofs.YtfedmcehkpfciaaGreat.Lex Go.Proofs.YtfedmcehkpfciaaGreat.PName Go.Proofs.YtfedmcehkpfciaaGreat.Hof Go.Proofs.YtfedmcehkpfciaaGreat.Sym Go.Proofs.YtfedmcehkpfciaaGreat.Sort Go.Proofs.YtfedmcehkpfciaaGreat.Grow Go.Proofs.YtfedmcehkpfciaaGreat.PBoring
abbrev le (x y : Int) : Bool := decide (x ≤ y)
theorem insL_app (v u : Int) (h : v < u) : ∀ P : List Int, insL le v (P ++ [u]) = insL le v P ++ [u]
 | [] => by
  have : le u v = false := decide_eq_false (by omega)
  simp [insL, this]
 | y :: P => by
  simp only [List.cons_append, insL]
  cases hy : le y v with
  | true => simp only [if_true, insL_app v u h P, List.cons_append]
  | false => simp
theorem insL_last (v : Int) : ∀ P : List Int, (∀ y ∈ P, y ≤ v) → insL le v P = P ++ [v]
 | [], _ => rfl
 | y :: P, h => by
  have hy : le y v = true := decide_eq_true (h y (by simp))
  simp only [insL, hy, if_true, insL_last v P (fun z hz => h z (by simp [hz])), List.cons_append]
theorem set_mid (P : List Int) (u v : Int) (Q : List Int) : ((P ++ u :: v :: Q).set (P.length + 1) u).set P.length v = P ++ v :: u :: Q := by
 rw [List.set_append_right _ _ (by omega), List.set_append_right _ _ (by omega)]
 simp
theorem rd_mid0 (P : List Int) (u : Int) (Q : List Int) : rd (P ++ u :: Q) (P.length : Nat) = u := by
 unfold rd; simp
theorem rd_mid1 (P : List Int) (u v : Int) (Q : List Int) : rd (P ++ u :: v :: Q) ((P.length + 1 : Nat) : Int) = v := by
 unfold rd
 rw [Int.toNat_natCast, List.getD_eq_getElem?_getD, List.getElem?_append_right (by omega)]
 simp
theorem sink {V : List Int} (i : Int) (v : Int) : ∀ (m : Nat) (P : List Int) (Q : List Int), P.length = m → P.Pairwise (· ≤ ·) → m + Q.length + 1 ≤ 1000000 →
  Evt (fun k => gangsawref14_ends.l1 k (insL le v P ++ Q) (wrap64 (i + 1))) V → Evt (fun k => gangsawref14_ends.l2 k (P ++ v :: Q) i (m : Nat)) V := by
 intro m
 induction m with
 | zero =>
  intro P Q hm hs hb hv
  obtain rfl : P = [] := List.length_eq_zero_iff.1 hm
  exact Evt.succ hv (fun k => by simp only [gangsawref14_ends.l2, List.nil_append, insL]; rw [if_neg (by decide)]; rfl)
 | succ m ih =>
  intro P Q hm hs hb hv
  obtain ⟨P', u, rfl⟩ : ∃ P' u, P = P' ++ [u] := ⟨P.dropLast, P.getLast (by intro h; rw [h] at hm; simp at hm), (List.dropLast_concat_getLast _).symm⟩
  have hm' : P'.length = m := by simpa using hm
  have hs' : P'.Pairwise (· ≤ ·) := (List.pairwise_append.1 hs).1
  have e1 : wrap64 (((m + 1 : Nat) : Int) - 1) = ((m : Nat) : Int) := by rw [wrap_mid _ (by omega) (by omega)]; omega
  have c0 : ((m + 1 : Nat) : Int) > 0 := by omega
  have c1 : (0 : Int) ≤ ((m + 1 : Nat) : Int) := by omega
  have c2 : ((m + 1 : Nat) : Int) < (((P' ++ [u]) ++ v :: Q).length : Int) := by simp; omega
  have c3 : (0 : Int) ≤ ((m : Nat) : Int) := by omega
  have c4 : ((m : Nat) : Int) < (((P' ++ [u]) ++ v :: Q).length : Int) := by simp; omega
  have el : (P' ++ [u]) ++ v :: Q = P' ++ u :: v :: Q := by simp
  have r0 : rd (P' ++ u :: v :: Q) ((m : Nat) : Int) = u := by rw [← hm']; exact rd_mid0 P' u (v :: Q)
  have r1 : rd (P' ++ u :: v :: Q) ((m + 1 : Nat) : Int) = v := by rw [← hm']; exact rd_mid1 P' u v Q
  have st : ((P' ++ u :: v :: Q).set (m + 1) u).set m v = P' ++ v :: u :: Q := by rw [← hm']; exact set_mid P' u v Q
  by_cases h : v < u
  ·rw [insL_app v u h, List.append_assoc] at hv
   have := ih P' (u :: Q) hm' hs' (by simp; omega) hv
   refine Evt.succ this (fun k => ?_)
   simp only [gangsawref14_ends.l2, e1, if_pos c0, if_pos c1, if_pos c2, if_pos c3, if_pos c4]
   rw [el, r0, r1, if_pos h, Int.toNat_natCast, Int.toNat_natCast, st]
  ·have hl : insL le v (P' ++ [u]) = (P' ++ [u]) ++ [v] := insL_last v _ (fun y hy => by
    rcases List.mem_append.1 hy with hy | hy
    ·have := (List.pairwise_append.1 hs).2.2 y hy u (by simp); omega
    ·simp at hy; omega)
   rw [hl] at hv
   refine Evt.succ hv (fun k => ?_)
   simp only [gangsawref14_ends.l2, e1, if_pos c0, if_pos c1, if_pos c2, if_pos c3, if_pos c4]
   rw [el, r0, r1, if_neg h]
   simp
theorem isortL (l : List Int) : (isort le l).Pairwise (· ≤ ·) := by
 have := isort_sorted (le := le) (fun a b c h1 h2 => by simp only [decide_eq_true_eq] at *; omega) (fun a b => by simp only [Bool.or_eq_true, decide_eq_true_eq]; omega) l
 exact this.imp (fun h => by simpa using h)
theorem isort_len (l : List Int) : (isort le l).length = l.length := (isort_perm l).length_eq
theorem ends_sort (X : List Int) (hX : X.length ≤ 999999) : Evt (fun k => gangsawref14_ends.l1 k X 0) (sortInt X) := by
 have key : ∀ i, i ≤ X.length → Evt (fun k => gangsawref14_ends.l1 k (isort le (X.take i) ++ X.drop i) (i : Nat)) (sortInt X) := by
  refine down ?_ ?_
  ·rw [List.take_length, List.drop_length, List.append_nil]
   refine Evt.succ (g := fun _ => some (sortInt X)) (Evt.pure _) (fun k => ?_)
   have c : ¬ ((X.length : Nat) : Int) < ((isort le X).length : Int) := by rw [isort_len]; omega
   simp only [gangsawref14_ends.l1, if_neg c]
   rfl
  ·intro i hi ih
   have hl : (isort le (X.take i)).length = i := by rw [isort_len, List.length_take]; omega
   have hn : isort le (X.take (i + 1)) = insL le X[i] (isort le (X.take i)) := by
    unfold isort
    rw [List.take_succ_eq_append_getElem hi, List.foldl_append]
    rfl
   rw [hn] at ih
   rw [List.drop_eq_getElem_cons hi]
   have := sink (i := (i : Nat)) (v := X[i]) i (isort le (X.take i)) (X.drop (i + 1)) hl (isortL _) (by rw [List.length_drop]; omega) (by rw [wrap_up i X.length hi (by omega)]; exact ih)
   refine Evt.succ this (fun k => ?_)
   have c : ((i : Nat) : Int) < ((isort le (X.take i) ++ X[i] :: X.drop (i + 1)).length : Int) := by simp [hl]; omega
   simp only [gangsawref14_ends.l1, if_pos c]
 have := key 0 (by omega)
 simpa [isort] using this
def dd : List Int → List Int
 | [] => []
 | [x] => [x]
 | x :: y :: r => if x = y then dd (y :: r) else x :: dd (y :: r)
theorem dd_mem : ∀ (l : List Int) (x : Int), x ∈ dd l ↔ x ∈ l
 | [], x => Iff.rfl
 | [_], x => Iff.rfl
 | a :: b :: r, x => by
  unfold dd
  by_cases h : a = b
  ·rw [if_pos h, dd_mem (b :: r) x, h]; simp
  ·rw [if_neg h, List.mem_cons, dd_mem (b :: r) x]; simp
theorem dd_strict : ∀ (l : List Int), l.Pairwise (· ≤ ·) → (dd l).Pairwise (· < ·)
 | [], _ => List.Pairwise.nil
 | [x], _ => by simp [dd]
 | a :: b :: r, h => by
  unfold dd
  have h2 : (b :: r).Pairwise (· ≤ ·) := (List.pairwise_cons.1 h).2
  by_cases e : a = b
  ·rw [if_pos e]; exact dd_strict (b :: r) h2
  ·rw [if_neg e, List.pairwise_cons]
   refine ⟨fun x hx => ?_, dd_strict (b :: r) h2⟩
   have hb : a ≤ b := (List.pairwise_cons.1 h).1 b (by simp)
   rcases List.mem_cons.1 ((dd_mem (b :: r) x).1 hx) with rfl | hx
   ·omega
   ·have := (List.pairwise_cons.1 h2).1 x hx; omega
theorem strict_unique {a b : List Int} (ha : a.Pairwise (· < ·)) (hb : b.Pairwise (· < ·)) (h : ∀ x, x ∈ a ↔ x ∈ b) : a = b := by
 have na : a.Nodup := ha.imp (fun {x y} hxy e => by omega)
 have nb : b.Nodup := hb.imp (fun {x y} hxy e => by omega)
 exact List.Perm.eq_of_pairwise (fun x y _ _ h1 h2 => by omega) ha hb ((List.perm_ext_iff_of_nodup na nb).2 h)
theorem get_le {zs : List Int} (hs : zs.Pairwise (· ≤ ·)) {i j : Nat} (hij : i ≤ j) (hj : j < zs.length) : zs[i] ≤ zs[j] := by
 rcases Nat.lt_or_ge i j with h | h
 ·exact List.pairwise_iff_getElem.1 hs i j (by omega) hj h
 ·obtain rfl : i = j := by omega
  exact Int.le_refl _
theorem compact_strict (zs : List Int) (hs : zs.Pairwise (· ≤ ·)) : (Lib.compact zs).Pairwise (· < ·) ∧ ∀ x, x ∈ Lib.compact zs ↔ x ∈ zs := by
 have hget : ∀ i (h : i < zs.length), zs.toArray[i]! = zs[i] := fun i h => by simp [h]
 unfold Lib.compact Lib.compactUpTo
 constructor
 ·rw [List.pairwise_map]
  refine List.Pairwise.imp_of_mem ?_ ((List.pairwise_lt_range (n := zs.length)).filter _)
  intro i j hi hj hij
  have hjl : j < zs.length := List.mem_range.1 (List.mem_filter.1 hj).1
  have hk := (List.mem_filter.1 hj).2
  unfold Lib.keeps at hk
  rw [decide_eq_true_eq] at hk
  rcases hk with h0 | hne
  ·omega
  ·rw [hget j hjl, hget (j - 1) (by omega)] at hne
   rw [hget i (by omega), hget j hjl]
   have h1 : zs[i] ≤ zs[j - 1] := get_le hs (by omega) (by omega)
   have h2 : zs[j - 1] ≤ zs[j] := get_le hs (by omega) hjl
   omega
 ·intro x
  constructor
  ·intro h
   obtain ⟨i, hi, rfl⟩ := List.mem_map.1 h
   have hil : i < zs.length := List.mem_range.1 (List.mem_filter.1 hi).1
   rw [hget i hil]
   exact List.getElem_mem _
  ·intro h
   obtain ⟨i, hi, rfl⟩ := List.mem_iff_getElem.1 h
   have key : ∀ i (hi : i < zs.length), zs[i] ∈ ((List.range zs.length).filter (Lib.keeps zs.toArray)).map (zs.toArray[·]!) := by
    intro i
    induction i with
    | zero =>
     intro hi
     refine List.mem_map.2 ⟨0, List.mem_filter.2 ⟨List.mem_range.2 hi, by simp [Lib.keeps]⟩, hget 0 hi⟩
    | succ i ih =>
     intro hi
     cases hk : Lib.keeps zs.toArray (i + 1) with
     | true => exact List.mem_map.2 ⟨i + 1, List.mem_filter.2 ⟨List.mem_range.2 hi, hk⟩, hget _ hi⟩
     | false =>
      unfold Lib.keeps at hk
      rw [decide_eq_false_iff_not] at hk
      have e : zs.toArray[i + 1]! = zs.toArray[i + 1 - 1]! := Classical.byContradiction (fun c => hk (.inr c))
      rw [hget _ hi, show i + 1 - 1 = i from rfl, hget i (by omega)] at e
      rw [e]
      exact ih (by omega)
   exact key i hi
theorem compact_dd (zs : List Int) (hs : zs.Pairwise (· ≤ ·)) : Lib.compact zs = dd zs := by
 obtain ⟨h1, h2⟩ := compact_strict zs hs
 exact strict_unique h1 (dd_strict zs hs) (fun x => by rw [h2, dd_mem])
def fl (x : Lg) : List Int := [x.f0, x.f1]
def cf (s t : Int) : Bool := if s = 0 then false else if t = 0 then false else s != t
def mgP (S T : Int → Int) : List Int → List Lg → Option (List Lg)
 | z1 :: z2 :: r, acc => if cf (S z1) (T z1) = true then none else mgP S T (z2 :: r) (if mx (S z1) (T z1) = 0 then acc else acc ++ [⟨z1, z2, mx (S z1) (T z1)⟩])
 | _, acc => some acc
def mgR (S T : Int → Int) : List Int → List Lg → Option (List Lg)
 | z1 :: z2 :: r, acc => if z1 = z2 then mgR S T (z2 :: r) acc else if cf (S z1) (T z1) = true then none else mgR S T (z2 :: r) (if S z1 = 0 then (if T z1 = 0 then acc else acc ++ [⟨z1, z2, T z1⟩]) else acc ++ [⟨z1, z2, S z1⟩])
 | _, acc => some acc
def fin (n0 : ByteArray) (a b : Int) : Option (List Lg) → ByteArray × Int × Int × List Lg × Int
 | none => (⟨#[]⟩, 0, 0, [], 10)
 | some L => (n0, a, b, joinV L, 0)
theorem mx_zero {t : Int} (h : 0 ≤ t) : mx 0 t = t := by unfold mx; by_cases c : (0 : Int) < t; rw [if_pos c]; rw [if_neg c]; omega
theorem mx_zero' {t : Int} (h : 0 ≤ t) : mx t 0 = t := by unfold mx; rw [if_neg (by omega)]
theorem mx_self (t : Int) : mx t t = t := by unfold mx; rw [if_neg (by omega)]
theorem mgR_cons {S T : Int → Int} (hS : ∀ z, 0 ≤ S z) (hT : ∀ z, 0 ≤ T z) : ∀ (Z : List Int) (acc : List Lg), mgR S T Z acc = mgP S T (dd Z) acc
 | [], _ => rfl
 | [_], _ => rfl
 | x :: y :: r, acc => by
  unfold mgR
  by_cases h : x = y
  ·rw [if_pos h, mgR_cons hS hT (y :: r) acc]
   have : dd (x :: y :: r) = dd (y :: r) := by rw [dd, if_pos h]
   rw [this]
  ·rw [if_neg h]
   have hd : dd (x :: y :: r) = x :: dd (y :: r) := by rw [dd, if_neg h]
   obtain ⟨r', hr'⟩ : ∃ r', dd (y :: r) = y :: r' := by
    clear hd h
    induction r with
    | nil => exact ⟨[], rfl⟩
    | cons z r ih =>
     by_cases e : y = z
     ·rw [dd, if_pos e]; subst e; exact ih
     ·rw [dd, if_neg e]; exact ⟨_, rfl⟩
   rw [hd, hr', mgP, ← hr']
   cases hc : cf (S x) (T x) with
   | true => rfl
   | false =>
    simp only [Bool.false_eq_true, if_false]
    rw [mgR_cons hS hT (y :: r)]
    congr 1
    unfold cf at hc
    by_cases s0 : S x = 0
    ·rw [if_pos s0, s0, mx_zero (hT x)]
    ·rw [if_neg s0] at hc ⊢
     by_cases t0 : T x = 0
     ·rw [t0, mx_zero' (hS x), if_neg s0]
     ·rw [if_neg t0] at hc
      have : S x = T x := by simpa using hc
      rw [← this, mx_self, if_neg s0]
theorem stV_nonneg (z : Int) : ∀ l : List Lg, l.any bad1 = false → 0 ≤ stV z l
 | [], _ => by unfold stV; omega
 | x :: r, h => by
  rw [List.any_cons, Bool.or_eq_false_iff] at h
  unfold stV
  by_cases h1 : x.f0 ≤ z
  ·rw [if_pos h1]
   by_cases h2 : z < x.f1
   ·rw [if_pos h2]
    have := h.1
    unfold bad1 at this
    by_cases e1 : x.f2 = 1
    ·omega
    ·by_cases e2 : x.f2 = 2
     ·omega
     ·simp [e1, e2] at this
   ·rw [if_neg h2]; exact stV_nonneg z r h.2
  ·rw [if_neg h1]; exact stV_nonneg z r h.2
theorem formed_any {n0 : ByteArray} {a b : Int} {l : List Lg} (h : formedV n0 a b l = 0) : l.any bad1 = false ∧ l.length ≤ 64 := by
 unfold formedV at h
 by_cases h1 : nameB n0 = false
 ·rw [if_pos h1] at h; omega
 rw [if_neg h1] at h
 by_cases h2 : 64 < l.length
 ·rw [if_pos h2] at h; omega
 rw [if_neg h2] at h
 by_cases h3 : l.any bad1 = true
 ·rw [if_pos h3] at h; omega
 exact ⟨by simpa using h3, by omega⟩
theorem merge_l2 (n0 : ByteArray) (a b : Int) (la : List Lg) (m0 : ByteArray) (c d : Int) (lb : List Lg) (ha : la.length ≤ 70) (hb : lb.length ≤ 70) (U : List Int) (hU : U.length ≤ 90000) : ∀ i, i ≤ U.length → ∀ acc : List Lg, acc.length ≤ i → Evt (fun k => boring_Merge.l2 k U acc ((i + 1 : Nat) : Int) n0 a b la m0 c d lb) (fin n0 a b (mgP (fun z => stV z la) (fun z => stV z lb) (U.drop i) acc)) := by
 refine down (P := fun i => ∀ acc : List Lg, acc.length ≤ i → Evt (fun k => boring_Merge.l2 k U acc ((i + 1 : Nat) : Int) n0 a b la m0 c d lb) (fin n0 a b (mgP (fun z => stV z la) (fun z => stV z lb) (U.drop i) acc))) ?_ ?_
 ·intro acc hacc
  rw [List.drop_length]
  have c0 : ¬ ((U.length + 1 : Nat) : Int) < (U.length : Int) := by omega
  refine Evt.succ (g := fun k => (boring_joined.f k acc).bind fun t => some (n0, a, b, t, 0)) ?_ (fun k => by simp only [boring_Merge.l2, if_neg c0])
  exact Evt.bind (joined_ev acc (by omega)) (Evt.pure _)
 ·intro i hi ih acc hacc
  rw [List.drop_eq_getElem_cons hi]
  by_cases h1 : i + 1 < U.length
  ·have hdr : U.drop (i + 1) = U[i + 1] :: U.drop (i + 2) := List.drop_eq_getElem_cons h1
   have r0 : rd U ((i : Nat) : Int) = U[i] := getD_at U _ i hi
   have r1 : rd U ((i + 1 : Nat) : Int) = U[i + 1] := getD_at U _ (i + 1) h1
   have c0 : ((i + 1 : Nat) : Int) < (U.length : Int) := by omega
   have e1 : Unit → wrap64 (((i + 1 : Nat) : Int) - 1) = ((i : Nat) : Int) := fun _ => by rw [wrap_mid _ (by omega) (by omega)]; omega
   have e2 : Unit → wrap64 (((i + 1 : Nat) : Int) + 1) = ((i + 1 + 1 : Nat) : Int) := fun _ => wrap_up (i + 1) U.length h1 (by omega)
   have c1 : (0 : Int) ≤ ((i : Nat) : Int) := by omega
   have c2 : ((i : Nat) : Int) < (U.length : Int) := by omega
   have c3 : (0 : Int) ≤ ((i + 1 : Nat) : Int) := by omega
   have c4 : acc.length < 5864062014805 := by omega
   rw [hdr, mgP, ← hdr]
   obtain ⟨s, hs⟩ : ∃ s, stV U[i] la = s := ⟨_, rfl⟩
   obtain ⟨t, ht⟩ : ∃ t, stV U[i] lb = t := ⟨_, rfl⟩
   simp only [hs, ht]
   have hj : Evt (fun k => boring_Merge.j3 k U acc ((i + 1 : Nat) : Int) s t (cf s t) n0 a b la m0 c d lb) (fin n0 a b (if cf s t = true then none else mgP (fun z => stV z la) (fun z => stV z lb) (U.drop (i + 1)) (if mx s t = 0 then acc else acc ++ [⟨U[i], U[i + 1], mx s t⟩]))) := by
    cases hc : cf s t with
    | true => exact Evt.succ (g := fun _ => some _) (Evt.pure _) (fun k => by simp only [boring_Merge.j3, if_true]; rfl)
    | false =>
     simp only [Bool.false_eq_true, if_false]
     by_cases hm : mx s t = 0
     ·have := ih acc (by omega)
      rw [if_pos hm]
      exact Evt.succ this (fun k => by simp only [boring_Merge.j3, Bool.false_eq_true, if_false, if_pos hm, e2 ()])
     ·have := ih (acc ++ [⟨U[i], U[i + 1], mx s t⟩]) (by simp; omega)
      rw [if_neg hm]
      exact Evt.succ this (fun k => by simp only [boring_Merge.j3, Bool.false_eq_true, if_false, if_neg hm, e1 (), if_pos c1, if_pos c2, if_pos c3, if_pos c0, if_pos c4, r0, r1, e2 ()])
   refine Evt.succ (g := fun k => (boring_State.f k n0 a b la U[i]).bind fun x => (boring_State.f k m0 c d lb U[i]).bind fun y => boring_Merge.j3 k U acc ((i + 1 : Nat) : Int) x y (cf x y) n0 a b la m0 c d lb) ?_ (fun k => ?_)
   ·refine Evt.bind (state_ev n0 a b la U[i] (by omega)) (Evt.bind (state_ev m0 c d lb U[i] (by omega)) ?_)
    rw [hs, ht]; exact hj
   ·simp only [boring_Merge.l2, if_pos c0, e1 (), if_pos c1, if_pos c2, r0]
    congr 1; funext x
    congr 1; funext y
    unfold cf
    by_cases x0 : x = 0
    ·rw [if_pos x0, if_pos x0]
    ·rw [if_neg x0, if_neg x0]
     by_cases y0 : y = 0
     ·rw [if_pos y0, if_pos y0]
     ·rw [if_neg y0, if_neg y0]
  ·have hdr : U.drop (i + 1) = [] := List.drop_eq_nil_of_le (by omega)
   rw [hdr]
   have c0 : ¬ ((i + 1 : Nat) : Int) < (U.length : Int) := by omega
   refine Evt.succ (g := fun k => (boring_joined.f k acc).bind fun t => some (n0, a, b, t, 0)) ?_ (fun k => by simp only [boring_Merge.l2, if_neg c0])
   exact Evt.bind (joined_ev acc (by omega)) (Evt.pure _)
theorem rmerge_l0 (n0 : ByteArray) (a b : Int) (la : List Lg) (m0 : ByteArray) (c d : Int) (lb : List Lg) (ha : la.length ≤ 70) (hb : lb.length ≤ 70) (U : List Int) (hU : U.length ≤ 90000) : ∀ i, i ≤ U.length → ∀ acc : List Lg, acc.length ≤ i → Evt (fun k => gangsawref14_Merge.l0 k U (i : Nat) n0 a b la m0 c d lb n0 a b acc) (fin n0 a b (mgR (fun z => stV z la) (fun z => stV z lb) (U.drop i) acc)) := by
 refine down (P := fun i => ∀ acc : List Lg, acc.length ≤ i → Evt (fun k => gangsawref14_Merge.l0 k U (i : Nat) n0 a b la m0 c d lb n0 a b acc) (fin n0 a b (mgR (fun z => stV z la) (fun z => stV z lb) (U.drop i) acc))) ?_ ?_
 ·intro acc hacc
  rw [List.drop_length]
  have e0 : Unit → wrap64 ((U.length : Int) + 1) = ((U.length + 1 : Nat) : Int) := fun _ => by rw [wrap_mid _ (by omega) (by omega)]; omega
  have c0 : ¬ ((U.length + 1 : Nat) : Int) < (U.length : Int) := by omega
  refine Evt.succ (g := fun k => (gangsawref14_joined.f k acc).bind fun t => some (n0, a, b, t, 0)) ?_ (fun k => by simp only [gangsawref14_Merge.l0, e0 (), if_neg c0])
  exact Evt.bind (rjoined_ev acc (by omega)) (Evt.pure _)
 ·intro i hi ih acc hacc
  rw [List.drop_eq_getElem_cons hi]
  have e1 : Unit → wrap64 ((i : Int) + 1) = ((i + 1 : Nat) : Int) := fun _ => wrap_up i U.length hi (by omega)
  by_cases h1 : i + 1 < U.length
  ·have hdr : U.drop (i + 1) = U[i + 1] :: U.drop (i + 2) := List.drop_eq_getElem_cons h1
   have r0 : rd U ((i : Nat) : Int) = U[i] := getD_at U _ i hi
   have r1 : rd U ((i + 1 : Nat) : Int) = U[i + 1] := getD_at U _ (i + 1) h1
   have c0 : ((i + 1 : Nat) : Int) < (U.length : Int) := by omega
   have c1 : (0 : Int) ≤ ((i : Nat) : Int) := by omega
   have c2 : ((i : Nat) : Int) < (U.length : Int) := by omega
   have c3 : (0 : Int) ≤ ((i + 1 : Nat) : Int) := by omega
   have c4 : acc.length < 5864062014805 := by omega
   rw [hdr, mgR, ← hdr]
   by_cases hz : U[i] = U[i + 1]
   ·rw [if_pos hz]
    exact Evt.succ (ih acc (by omega)) (fun k => by simp only [gangsawref14_Merge.l0, e1 (), if_pos c0, if_pos c1, if_pos c2, if_pos c3, r0, r1, if_pos hz])
   rw [if_neg hz]
   obtain ⟨s, hs⟩ : ∃ s, stV U[i] la = s := ⟨_, rfl⟩
   obtain ⟨t, ht⟩ : ∃ t, stV U[i] lb = t := ⟨_, rfl⟩
   simp only [hs, ht]
   have hj : Evt (fun k => gangsawref14_Merge.j1 k U (i : Nat) s t (cf s t) n0 a b la m0 c d lb n0 a b acc) (fin n0 a b (if cf s t = true then none else mgR (fun z => stV z la) (fun z => stV z lb) (U.drop (i + 1)) (if s = 0 then (if t = 0 then acc else acc ++ [⟨U[i], U[i + 1], t⟩]) else acc ++ [⟨U[i], U[i + 1], s⟩]))) := by
    cases hc : cf s t with
    | true => exact Evt.succ (g := fun _ => some _) (Evt.pure _) (fun k => by simp only [gangsawref14_Merge.j1, if_true]; rfl)
    | false =>
     simp only [Bool.false_eq_true, if_false]
     by_cases s0 : s = 0
     ·by_cases t0 : t = 0
      ·have := ih acc (by omega)
       rw [if_pos s0, if_pos t0]
       exact Evt.succ this (fun k => by simp only [gangsawref14_Merge.j1, Bool.false_eq_true, if_false, if_pos s0, if_pos t0, e1 ()])
      ·have := ih (acc ++ [⟨U[i], U[i + 1], t⟩]) (by simp; omega)
       rw [if_pos s0, if_neg t0]
       exact Evt.succ this (fun k => by simp only [gangsawref14_Merge.j1, Bool.false_eq_true, if_false, if_pos s0, if_neg t0, e1 (), if_pos c1, if_pos c2, if_pos c3, if_pos c0, if_pos c4, r0, r1])
     ·have := ih (acc ++ [⟨U[i], U[i + 1], s⟩]) (by simp; omega)
      rw [if_neg s0]
      exact Evt.succ this (fun k => by simp only [gangsawref14_Merge.j1, Bool.false_eq_true, if_false, if_neg s0, e1 (), if_pos c1, if_pos c2, if_pos c3, if_pos c0, if_pos c4, r0, r1])
   refine Evt.succ (g := fun k => (gangsawref14_State.f k n0 a b la U[i]).bind fun x => (gangsawref14_State.f k m0 c d lb U[i]).bind fun y => gangsawref14_Merge.j1 k U (i : Nat) x y (cf x y) n0 a b la m0 c d lb n0 a b acc) ?_ (fun k => ?_)
   ·refine Evt.bind (rstate_ev n0 a b la U[i] (by omega)) (Evt.bind (rstate_ev m0 c d lb U[i] (by omega)) ?_)
    rw [hs, ht]; exact hj
   ·simp only [gangsawref14_Merge.l0, e1 (), if_pos c0, if_pos c1, if_pos c2, if_pos c3, r0, r1, if_neg hz]
    congr 1; funext x
    congr 1; funext y
    unfold cf
    by_cases x0 : x = 0
    ·rw [if_pos x0, if_pos x0]
    ·rw [if_neg x0, if_neg x0]
     by_cases y0 : y = 0
     ·rw [if_pos y0, if_pos y0]
     ·rw [if_neg y0, if_neg y0]
  ·have hdr : U.drop (i + 1) = [] := List.drop_eq_nil_of_le (by omega)
   rw [hdr]
   have c0 : ¬ ((i + 1 : Nat) : Int) < (U.length : Int) := by omega
   refine Evt.succ (g := fun k => (gangsawref14_joined.f k acc).bind fun t => some (n0, a, b, t, 0)) ?_ (fun k => by simp only [gangsawref14_Merge.l0, e1 (), if_neg c0])
   exact Evt.bind (rjoined_ev acc (by omega)) (Evt.pure _)
end Go.Proofs.YtfedmcehkpfciaaGreat.PMerge
