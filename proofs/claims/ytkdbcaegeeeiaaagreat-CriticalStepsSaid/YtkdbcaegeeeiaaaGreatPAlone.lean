/-
 critical.alone and the reference's Alone (layer 52): Check of one job with machines that are clean gives what the job alone tells.
-/
import Derived.Test.YtkdbcaegeeeiaaaGreatPCheck
import Derived.Test.YtkdbcaegeeeiaaaGreatPx9
import Derived.Test.YtkdbcaegeeeiaaaGreatPx11
set_option linter.unusedVariables false
set_option linter.unusedSimpArgs false
namespace Go.Proofs.YtkdbcaegeeeiaaaGreat.PAlone
open Go.RowKit Go.Proofs.YtkdbcaegeeeiaaaGreatW.PrintWords Go.Proofs.YtkdbcaegeeeiaaaGreat.P Go.Proofs.YtkdbcaegeeeiaaaGreat.Rnd Go.Proofs.YtkdbcaegeeeiaaaGreat.Lex Go.Proofs.YtkdbcaegeeeiaaaGreat.PName Go.Proofs.YtkdbcaegeeeiaaaGreat.Open Go.Proofs.YtkdbcaegeeeiaaaGreat.Ks Go.Proofs.YtkdbcaegeeeiaaaGreat.Hof Go.Proofs.YtkdbcaegeeeiaaaGreat.Twice Go.Proofs.YtkdbcaegeeeiaaaGreat.JCheck Go.Proofs.YtkdbcaegeeeiaaaGreat.PCheck
def W (j : Jb) : Int :=
 if long j = true then 7 else if badNJ j = true then 4 else if j.f1.any badNS = true then 4 else if badRJ j = true then 6 else if j.f1.any badRS = true then 6 else if bare j = true then 9 else 0
structure Clean (ms : List Mc) (j : Jb) : Prop where
 len : ms.length ≤ 32
 nm : ∀ m ∈ ms, nameB m.f0 = true
 zero : ∀ m ∈ ms, m.f2 = 0
 work : ∀ m ∈ ms, ∃ s ∈ j.f1, s.f0 = m.f1
 all : ∀ s ∈ j.f1, ∃ m ∈ ms, m.f1 = s.f0
 dist : ∀ i, i < ms.length → dupM (fun x => x.f0) ms i = false
theorem V_clean (ms : List Mc) (j : Jb) (H : Clean ms j) : V ms [j] = W j := by
 have h1 : ¬ (ms.length : Int) > 32 := by have := H.len; omega
 have h2 : ms.any badRM = false := by
  rw [List.any_eq_false]
  intro m hm
  simp [badRM, inB, H.zero m hm]
 have h3 : (List.range ms.length).any (dupM (fun x => x.f0) ms) = false := by
  rw [List.any_eq_false]
  intro i hi
  simp [H.dist i (List.mem_range.1 hi)]
 have h4 : (List.range [j].length).any (dupJ (fun x => x.f0) [j]) = false := by
  unfold dupJ mkJ
  simp [new_at]
 have h5 : j.f1.any (lost ms) = false := by
  rw [List.any_eq_false]
  intro s hs
  obtain ⟨m, hm, he⟩ := H.all s hs
  rw [lost_eq]
  simp only [Bool.not_eq_true', Bool.not_eq_true, Bool.not_eq_false', List.any_eq_true, Bool.not_eq_false]
  exact ⟨m, hm, by rw [he]; exact beq_self_eq_true _⟩
 have h6 : ms.any badNM = true → j.f1.any badNS = true := by
  rw [List.any_eq_true, List.any_eq_true]
  rintro ⟨m, hm, hb⟩
  obtain ⟨s, hs, he⟩ := H.work m hm
  have hn := H.nm m hm
  refine ⟨s, hs, ?_⟩
  unfold badNM at hb
  unfold badNS
  rw [he]
  simpa [hn] using hb
 unfold V W
 simp only [h1, h2, h3, h4, h5, List.any_cons, List.any_nil, Bool.or_false, List.length_cons, List.length_nil, if_false, Bool.false_eq_true]
 cases hl : long j <;> cases hm : ms.any badNM <;> cases hj : badNJ j <;> cases hs : j.f1.any badNS <;> simp_all
def nmA (i : Nat) : ByteArray := (⟨#[109]⟩ : ByteArray) ++ Utf8.encode (wrap32 (wrap64 (97 + (i : Int))))
theorem nmA_ok : ∀ i, i < 20 → nameB (nmA i) = true := by decide +kernel
theorem nmA_size : ∀ i : Nat, i < 20 → 1 + (Utf8.encode (wrap32 (wrap64 (97 + (i : Int))))).size ≤ 9223372036854775807 := by decide +kernel
theorem nmA_ne : ∀ i, i < 20 → ∀ j, j < i → nmA i ≠ nmA j := by decide +kernel
def msA (l : List Sp) (n : Nat) : List Mc := (List.range n).map (fun i => (⟨nmA i, (l.getD i z40).f0, 0⟩ : Mc))
theorem msA_succ (l : List Sp) (n : Nat) (h : n < l.length) : msA l (n + 1) = msA l n ++ [(⟨nmA n, l[n].f0, 0⟩ : Mc)] := by
 unfold msA
 rw [List.range_succ, List.map_append]
 simp [h]
theorem msA_clean (j : Jb) (hl : j.f1.length ≤ 20) : Clean (msA j.f1 j.f1.length) j where
 len := by simp [msA]; omega
 nm := by
  intro m hm
  obtain ⟨i, hi, rfl⟩ := List.mem_map.1 hm
  exact nmA_ok i (by have := List.mem_range.1 hi; omega)
 zero := by
  intro m hm
  obtain ⟨i, hi, rfl⟩ := List.mem_map.1 hm
  rfl
 work := by
  intro m hm
  obtain ⟨i, hi, rfl⟩ := List.mem_map.1 hm
  have hi' := List.mem_range.1 hi
  exact ⟨j.f1[i], List.getElem_mem _, by simp [hi']⟩
 all := by
  intro s hs
  obtain ⟨i, hi, rfl⟩ := List.mem_iff_getElem.1 hs
  exact ⟨_, List.mem_map.2 ⟨i, List.mem_range.2 hi, rfl⟩, by simp [hi]⟩
 dist := by
  intro i hi
  have hi' : i < j.f1.length := by simpa [msA] using hi
  unfold dupM mkM
  rw [mk_at, new_at, Bool.or_false, getD_nat _ _ _ hi, List.any_eq_false]
  intro x hx
  obtain ⟨q, hq, rfl⟩ := List.mem_take_iff_getElem.1 hx
  have hq' : q < i := by omega
  simp only [msA, List.getElem_map, List.getElem_range]
  intro e
  exact nmA_ne i (by omega) q hq' (eq_of_beq e)
theorem alone_ref (j : Jb) (hl : j.f1.length ≤ 20) (v : Int) (hv : Evt (fun k => gangsawref50_Check.f k (msA j.f1 j.f1.length) [j]) v) : Evt (fun k => gangsawref52_Alone.f k j.f0 j.f1 j.f2 j.f3 j.f4) v := by
 have key : ∀ n, n ≤ j.f1.length → Evt (fun k => gangsawref52_Alone.l0 k (msA j.f1 n) n j.f0 j.f1 j.f2 j.f3 j.f4) v := by
  refine down ?_ ?_
  ·refine Evt.succ (g := fun k => (gangsawref50_Check.f k (msA j.f1 j.f1.length) [j]).bind fun t => some t) (Evt.bind hv (Evt.pure _)) (fun k => ?_)
   simp only [gangsawref52_Alone.l0]
   rw [if_neg (by omega)]
  ·intro n hn ih
   refine Evt.succ ih (fun k => ?_)
   have hlen : (msA j.f1 n).length = n := by simp [msA]
   have hs := nmA_size n (by omega)
   simp only [gangsawref52_Alone.l0, rdS_at _ n hn]
   rw [if_pos (by omega), if_pos (by omega), if_pos hs, if_pos (by omega), if_pos (by omega), wrap_up n j.f1.length hn (by omega), msA_succ _ n hn]
   rfl
 exact key 0 (Nat.zero_le _)
def nmC (n : Nat) : ByteArray := ((⟨#[109]⟩ : ByteArray) ++ (Utf8.encode (wrap32 (wrap64 (97 + (wrap64 ((n : Int) / 26))))))) ++ (Utf8.encode (97 + ((n : Int) % 26)))
theorem nmC_ok : ∀ i, i < 20 → nameB (nmC i) = true := by decide +kernel
theorem nmC_s1 : ∀ i : Nat, i < 20 → 1 + (Utf8.encode (wrap32 (wrap64 (97 + (wrap64 ((i : Int) / 26)))))).size ≤ 9223372036854775807 := by decide +kernel
theorem nmC_s2 : ∀ i : Nat, i < 20 → ((⟨#[109]⟩ : ByteArray) ++ (Utf8.encode (wrap32 (wrap64 (97 + (wrap64 ((i : Int) / 26))))))).size + (Utf8.encode (97 + ((i : Int) % 26))).size ≤ 9223372036854775807 := by decide +kernel
theorem nmC_ne : ∀ i, i < 20 → ∀ j, j < i → nmC i ≠ nmC j := by decide +kernel
def known (ms : List Mc) (s : Sp) : Bool := ms.any (fun m => m.f1.toList == s.f0.toList)
def addM (ms : List Mc) (s : Sp) : List Mc := if known ms s = true then ms else ms ++ [(⟨nmC ms.length, s.f0, 0⟩ : Mc)]
def msC (l : List Sp) (n : Nat) : List Mc := (l.take n).foldl addM []
theorem msC_succ (l : List Sp) (n : Nat) (h : n < l.length) : msC l (n + 1) = addM (msC l n) l[n] := by
 unfold msC
 rw [List.take_succ_eq_append_getElem h, List.foldl_append]; rfl
structure Inv (l : List Sp) (n : Nat) (ms : List Mc) : Prop where
 len : ms.length ≤ n
 nm : ∀ i (h : i < ms.length), ms[i].f0 = nmC i ∧ ms[i].f2 = 0 ∧ ∃ s ∈ l, s.f0 = ms[i].f1
 all : ∀ i (h : i < l.length), i < n → ∃ m ∈ ms, m.f1 = l[i].f0
theorem inv (l : List Sp) : ∀ n, n ≤ l.length → Inv l n (msC l n)
 | 0, _ => ⟨by simp [msC], fun i h => by simp [msC] at h, fun i h h2 => by omega⟩
 | n + 1, hn => by
  have H := inv l n (by omega)
  rw [msC_succ l n (by omega)]
  unfold addM
  by_cases hk : known (msC l n) l[n] = true
  ·rw [if_pos hk]
   refine ⟨by have := H.len; omega, H.nm, fun i h hi => ?_⟩
   by_cases e : i = n
   ·subst e
    unfold known at hk
    obtain ⟨m, hm, he⟩ := List.any_eq_true.1 hk
    exact ⟨m, hm, tl_inj.1 (eq_of_beq he)⟩
   ·exact H.all i h (by omega)
  ·rw [if_neg hk]
   refine ⟨by have := H.len; simp; omega, fun i h => ?_, fun i h hi => ?_⟩
   ·by_cases e : i < (msC l n).length
    ·rw [List.getElem_append_left e]; exact H.nm i e
    ·have e2 : i = (msC l n).length := by simp at h; omega
     subst e2
     simp only [List.getElem_append_right (Nat.le_refl _), Nat.sub_self, List.getElem_cons_zero]
     exact ⟨trivial, trivial, l[n], List.getElem_mem _, rfl⟩
   ·by_cases e : i = n
    ·subst e
     exact ⟨_, List.mem_append_right _ (List.mem_singleton.2 rfl), rfl⟩
    ·obtain ⟨m, hm, he⟩ := H.all i h (by omega)
     exact ⟨m, List.mem_append_left _ hm, he⟩
theorem msC_clean (j : Jb) (hl : j.f1.length ≤ 20) : Clean (msC j.f1 j.f1.length) j := by
 have H := inv j.f1 _ (Nat.le_refl _)
 have hln := H.len
 refine ⟨by omega, ?_, ?_, ?_, ?_, ?_⟩
 ·intro m hm
  obtain ⟨i, hi, rfl⟩ := List.mem_iff_getElem.1 hm
  rw [(H.nm i hi).1]; exact nmC_ok i (by omega)
 ·intro m hm
  obtain ⟨i, hi, rfl⟩ := List.mem_iff_getElem.1 hm
  exact (H.nm i hi).2.1
 ·intro m hm
  obtain ⟨i, hi, rfl⟩ := List.mem_iff_getElem.1 hm
  exact (H.nm i hi).2.2
 ·intro s hs
  obtain ⟨i, hi, rfl⟩ := List.mem_iff_getElem.1 hs
  exact H.all i hi hi
 ·intro i hi
  unfold dupM mkM
  rw [mk_at, new_at, Bool.or_false, getD_nat _ _ _ hi, List.any_eq_false]
  intro x hx
  obtain ⟨q, hq, rfl⟩ := List.mem_take_iff_getElem.1 hx
  have hq' : q < i := by omega
  intro e
  have e2 : (msC j.f1 j.f1.length)[i].f0 = (msC j.f1 j.f1.length)[q].f0 := eq_of_beq e
  rw [(H.nm i hi).1, (H.nm q (by omega)).1] at e2
  exact nmC_ne i (by omega) q hq' e2
theorem alone_ev (j : Jb) (hl : j.f1.length ≤ 20) : Evt (fun k => critical_alone.f k j.f0 j.f1 j.f2 j.f3 j.f4) (W j) := by
 have key : ∀ n, n ≤ j.f1.length → Evt (fun k => critical_alone.l0 k (msC j.f1 n) j.f1 (j.f1.length : Int) n j.f0 j.f1 j.f2 j.f3 j.f4) (W j) := by
  refine down ?_ ?_
  ·refine Evt.succ (g := fun _ => some (W j)) (Evt.pure _) (fun k => ?_)
   simp only [critical_alone.l0]
   rw [if_neg (by omega), jobshop_eq, V_clean _ (⟨j.f0, j.f1, j.f2, j.f3, j.f4⟩ : Jb) (msC_clean j hl)]
   rfl
  ·intro n hn ih
   refine Evt.succ ih (fun k => ?_)
   have hlen := (inv j.f1 n (by omega)).len
   have hc : contains42.f (msC j.f1 n) (fun x_ => critical_alone_1.f x_.f0 x_.f1 x_.f2 j.f1[n].f0 j.f1[n].f1 j.f1[n].f2) = some (known (msC j.f1 n) j.f1[n]) := anyO_some _ _
   simp only [critical_alone.l0, rdS_at _ n hn, hc, Option.bind_some]
   rw [if_pos (by omega), if_pos (by omega), if_pos (by omega), msC_succ _ n hn, wrap_up n j.f1.length hn (by omega)]
   unfold addM
   by_cases hk : known (msC j.f1 n) j.f1[n] = true
   ·rw [if_pos hk, if_pos hk]
   ·rw [if_neg hk, if_neg hk, if_pos (by omega), if_pos (nmC_s1 _ (by omega)), if_pos (nmC_s2 _ (by omega)), if_pos (by omega)]
    rfl
 exact key 0 (Nat.zero_le _)
theorem alone_ref_ev (j : Jb) (hl : j.f1.length ≤ 20) (hj : j.f0.size ≤ 9223372036854775807) (hs : ∀ s ∈ j.f1, s.f0.size ≤ 9223372036854775807) : Evt (fun k => gangsawref52_Alone.f k j.f0 j.f1 j.f2 j.f3 j.f4) (W j) := by
 rw [← V_clean _ j (msA_clean j hl)]
 refine alone_ref j hl _ (check_ev _ _ ⟨by simp [msA]; omega, by simp, fun m hm => ?_, fun x hx => ?_⟩)
 ·obtain ⟨i, hi, rfl⟩ := List.mem_map.1 hm
  have hi' := List.mem_range.1 hi
  have h1 := nmA_size i (by omega)
  refine ⟨?_, by simp only [getD_nat _ _ _ hi']; exact hs _ (List.getElem_mem _)⟩
  have e : (nmA i).size = 1 + (Utf8.encode (wrap32 (wrap64 (97 + (i : Int))))).size := by unfold nmA; rw [ByteArray.size_append]; rfl
  show (nmA i).size ≤ _
  omega
 ·rw [List.mem_singleton] at hx
  subst hx
  exact ⟨hj, by omega, hs⟩
end Go.Proofs.YtkdbcaegeeeiaaaGreat.PAlone
