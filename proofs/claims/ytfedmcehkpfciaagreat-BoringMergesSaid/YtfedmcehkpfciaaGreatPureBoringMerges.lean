/-
  BoringMerges: the plain law.
-/
import Derived.Test.YtfedmcehkpfciaaGreatKs
import Derived.Test.YtfedmcehkpfciaaGreatPMerge
import Derived.Test.YtfedmcehkpfciaaGreatPx29
set_option linter.unusedVariables false
set_option linter.unusedSimpArgs false
namespace Go.Proofs.YtfedmcehkpfciaaGreat.Pure
open Go.RowKit Go.Proofs.YtfedmcehkpfciaaGreatW.PrintWords Go.Proofs.YtfedmcehkpfciaaGreatW.PrintLast Go.Proofs.YtfedmcehkpfciaaGreat.P Go.Proofs.YtfedmcehkpfciaaGreat.Open Go.Proofs.YtfedmcehkpfciaaGreat.Ks Go.Proofs.YtfedmcehkpfciaaGreat.Rnd Go.Proofs.YtfedmcehkpfciaaGreat.Awk Go.Proofs.YtfedmcehkpfciaaGreat.PBoring Go.Proofs.YtfedmcehkpfciaaGreat.Hof Go.Proofs.YtfedmcehkpfciaaGreat.Sort Go.Proofs.YtfedmcehkpfciaaGreat.Grow Go.Proofs.YtfedmcehkpfciaaGreat.PMerge
theorem concat_ev (la lb : List Lg) (ha : la.length ≤ 70) (hb : lb.length ≤ 70) : Evt (fun k => api_Log_56.f k [la, lb]) (la ++ lb) := by
  unfold api_Log_56.f
  have w1 : wrap64 (0 + (la.length : Int)) = (la.length : Int) := by rw [wrap_mid _ (by omega) (by omega)]; omega
  have w2 : wrap64 ((la.length : Int) + (lb.length : Int)) = (la.length : Int) + lb.length := wrap_mid _ (by clear w1; omega) (by clear w1; omega)
  have v1 : wrap64 ((0 : Int) + 1) = 1 := wrap_mid 1 (by decide) (by decide)
  have v2 : wrap64 ((1 : Int) + 1) = 2 := wrap_mid 2 (by decide) (by decide)
  have r0 : rd_L7 [la, lb] 0 = la := rfl
  have r1 : rd_L7 [la, lb] 1 = lb := rfl
  have n0 : ¬ (la.length : Int) < 0 := by clear w1 w2 v1 v2; omega
  have n1 : ¬ (la.length : Int) + (lb.length : Int) < 0 := by clear w1 w2 v1 v2; omega
  have hg : slices_Grow_nil.f ((la.length : Int) + lb.length) = some [] := by unfold slices_Grow_nil.f; rw [if_pos (by clear w1 w2 v1 v2; omega)]
  have m0 : ([] : List Lg).length + la.length < 5864062014805 := by clear w1 w2 v1 v2; simp; omega
  have m1 : ([] ++ la : List Lg).length + lb.length < 5864062014805 := by clear w1 w2 v1 v2; simp; omega
  have l2 : (([la, lb] : List (List Lg)).length : Int) = 2 := rfl
  refine Evt.succ (Evt.succ (Evt.succ (g := fun k => api_Log_56.l1 k [] [la, lb] (([la, lb] : List (List Lg)).length : Int) 0) (f := fun k => api_Log_56.l0 k [la, lb] ((la.length : Int) + lb.length) [la, lb] (([la, lb] : List (List Lg)).length : Int) 2) ?_ (fun k => ?_)) (f := fun k => api_Log_56.l0 k [la, lb] (la.length : Int) [la, lb] (([la, lb] : List (List Lg)).length : Int) 1) (fun k => ?_)) (fun k => ?_)
  · refine Evt.succ (Evt.succ (Evt.succ (g := fun _ => some ([] ++ la ++ lb)) (f := fun k => api_Log_56.l1 k ([] ++ la ++ lb) [la, lb] (([la, lb] : List (List Lg)).length : Int) 2) (Evt.pure _) (fun k => ?_)) (f := fun k => api_Log_56.l1 k ([] ++ la) [la, lb] (([la, lb] : List (List Lg)).length : Int) 1) (fun k => ?_)) (fun k => ?_)
    · simp only [api_Log_56.l1, l2]; rw [if_neg (by decide)]
    · simp only [api_Log_56.l1, l2, r1, v2, if_pos m1]; rw [if_pos (by decide), if_pos (by decide), if_pos (by decide)]
    · simp only [api_Log_56.l1, l2, r0, v1, if_pos m0]; rw [if_pos (by decide), if_pos (by decide), if_pos (by decide)]
  · simp only [api_Log_56.l0, l2, hg, Option.bind_some]; rw [if_neg (by decide)]
  · simp only [api_Log_56.l0, l2, r1, w2, v2, if_neg n1]; rw [if_pos (by decide), if_pos (by decide), if_pos (by decide)]
  · simp only [api_Log_56.l0, l2, r0, w1, v1, if_neg n0]; rw [if_pos (by decide), if_pos (by decide), if_pos (by decide)]
def flats (l : List Lg) : List Int := l.flatMap fl
theorem flats_len (l : List Lg) : (flats l).length = 2 * l.length := by
  unfold flats
  induction l with
  | nil => rfl
  | cons x r ih => rw [List.flatMap_cons, List.length_append, ih]; simp [fl]; omega
theorem dd_len : ∀ l : List Int, (dd l).length ≤ l.length
  | [] => Nat.le_refl _
  | [_] => Nat.le_refl _
  | x :: y :: r => by
    have := dd_len (y :: r)
    unfold dd
    by_cases h : x = y
    · rw [if_pos h]; simp at this ⊢; omega
    · rw [if_neg h]; simp at this ⊢; omega
theorem mgP_len (S T : Int → Int) : ∀ (U : List Int) (acc L : List Lg), mgP S T U acc = some L → L.length ≤ acc.length + U.length
  | [], acc, L, h => by rw [mgP] at h; obtain rfl := Option.some.inj h; omega; all_goals (intros; simp_all)
  | [_], acc, L, h => by rw [mgP] at h; obtain rfl := Option.some.inj h; omega; all_goals (intros; simp_all)
  | x :: y :: r, acc, L, h => by
    rw [mgP] at h
    cases hc : cf (S x) (T x) with
    | true => rw [hc] at h; simp at h
    | false =>
      rw [hc, if_neg (by decide)] at h
      have := mgP_len S T (y :: r) _ L h
      by_cases hm : mx (S x) (T x) = 0
      · rw [if_pos hm] at this; simp at this ⊢; omega
      · rw [if_neg hm] at this; simp at this ⊢; omega
def mergeV (n0 : ByteArray) (a b : Int) (la : List Lg) (m0 : ByteArray) (c d : Int) (lb : List Lg) : ByteArray × Int × Int × List Lg × Int :=
  if formedV n0 a b la ≠ 0 then (⟨#[]⟩, 0, 0, [], formedV n0 a b la) else if formedV m0 c d lb ≠ 0 then (⟨#[]⟩, 0, 0, [], formedV m0 c d lb) else
  if (!(a == c) || !(b == d)) = true then (⟨#[]⟩, 0, 0, [], 10) else fin n0 a b (mgP (fun z => stV z la) (fun z => stV z lb) (dd (sortInt (flats (la ++ lb)))) [])
theorem merge_ev (n0 : ByteArray) (a b : Int) (la : List Lg) (m0 : ByteArray) (c d : Int) (lb : List Lg) (ha : la.length ≤ 70) (hb : lb.length ≤ 70) : Evt (fun k => boring_Merge.f k n0 a b la m0 c d lb) (mergeV n0 a b la m0 c d lb) := by
  unfold boring_Merge.f mergeV
  simp only [Option.bind_some]
  have hfa := formed_f n0 a b la (by omega)
  have hfb := formed_f m0 c d lb (by omega)
  have v1 : wrap64 ((0 : Int) + 1) = 1 := wrap_mid 1 (by decide) (by decide)
  have v2 : wrap64 ((1 : Int) + 1) = 2 := wrap_mid 2 (by decide) (by decide)
  generalize hY : ([(⟨n0, ⟨a, b⟩, la⟩ : S33), ⟨m0, ⟨c, d⟩, lb⟩] : List S33) = Y
  have lY : (Y.length : Int) = 2 := by rw [← hY]; rfl
  have r0 : rd_T33 Y 0 = ⟨n0, ⟨a, b⟩, la⟩ := by rw [← hY]; rfl
  have r1 : rd_T33 Y 1 = ⟨m0, ⟨c, d⟩, lb⟩ := by rw [← hY]; rfl
  have k0 : (0 : Int) < 2 := by decide
  have k1 : (1 : Int) < 2 := by decide
  have k2 : ¬ (2 : Int) < 2 := by decide
  have k3 : (0 : Int) ≤ 0 := by decide
  have k4 : (0 : Int) ≤ 1 := by decide
  by_cases h1 : formedV n0 a b la = 0
  · rw [if_neg (fun h => h h1)]
    refine Evt.succ (g := fun k => boring_Merge.l0 k Y 2 1 n0 a b la m0 c d lb) ?_ (fun k => by simp only [boring_Merge.l0, lY, if_pos k0, if_pos k3, r0, hfa, Option.bind_some, if_pos h1, v1])
    by_cases h2 : formedV m0 c d lb = 0
    · rw [if_neg (fun h => h h2)]
      refine Evt.succ (g := fun k => boring_Merge.l0 k Y 2 2 n0 a b la m0 c d lb) ?_ (fun k => by simp only [boring_Merge.l0, lY, if_pos k1, if_pos k4, r1, hfb, Option.bind_some, if_pos h2, v2])
      by_cases h3 : (!(a == c) || !(b == d)) = true
      · rw [if_pos h3]
        exact Evt.succ (g := fun _ => some _) (Evt.pure _) (fun k => by simp only [boring_Merge.l0, if_neg k2, if_pos h3])
      · rw [if_neg h3]
        refine Evt.succ (g := fun k => (api_Log_56.f k [la, lb]).bind fun t => boring_Merge.l1 k [] t (t.length : Int) 0 n0 a b la m0 c d lb) ?_ (fun k => by simp only [boring_Merge.l0, if_neg k2, if_neg h3])
        clear v1 v2
        refine Evt.bind (concat_ev la lb ha hb) ?_
        have hlen : (la ++ lb).length ≤ 140 := by rw [List.length_append]; omega
        generalize la ++ lb = l at hlen
        have hsl : (sortInt (flats l)).length = (flats l).length := isort_len _
        have hend : Evt (fun k => (slices_Sort_int.f (flats l)).bind fun t => (slices_Compact_int.f t).bind fun u => boring_Merge.l2 k u [] 1 n0 a b la m0 c d lb) (fin n0 a b (mgP (fun z => stV z la) (fun z => stV z lb) (dd (sortInt (flats l))) [])) := by
          have hs : slices_Sort_int.f (flats l) = some (sortInt (flats l)) := by unfold slices_Sort_int.f; rw [if_pos (by rw [flats_len]; omega)]
          have hc : slices_Compact_int.f (sortInt (flats l)) = some (dd (sortInt (flats l))) := by unfold slices_Compact_int.f; rw [compact_dd (sortInt (flats l)) (isortL (flats l))]
          simp only [hs, hc, Option.bind_some]
          have := merge_l2 n0 a b la m0 c d lb ha hb (dd (sortInt (flats l))) (by have := dd_len (sortInt (flats l)); rw [hsl, flats_len] at this; omega) 0 (by omega) [] (by simp)
          exact this
        have key : ∀ i, i ≤ l.length → ∀ acc : List Int, acc ++ flats (l.drop i) = flats l → acc.length ≤ 2 * i → Evt (fun k => boring_Merge.l1 k acc l l.length (i : Nat) n0 a b la m0 c d lb) (fin n0 a b (mgP (fun z => stV z la) (fun z => stV z lb) (dd (sortInt (flats l))) [])) := by
          refine down (P := fun i => ∀ acc : List Int, acc ++ flats (l.drop i) = flats l → acc.length ≤ 2 * i → Evt (fun k => boring_Merge.l1 k acc l l.length (i : Nat) n0 a b la m0 c d lb) (fin n0 a b (mgP (fun z => stV z la) (fun z => stV z lb) (dd (sortInt (flats l))) []))) ?_ ?_
          · intro acc hacc hle
            rw [List.drop_length] at hacc
            obtain rfl : acc = flats l := by simpa [flats] using hacc
            exact Evt.succ hend (fun k => by simp only [boring_Merge.l1, Int.lt_irrefl, if_false])
          · intro i hi ih acc hacc hle
            have c1 : (i : Int) < (l.length : Int) := by omega
            have c2 : (0 : Int) ≤ (i : Int) := by omega
            have := ih (acc ++ fl l[i]) (by rw [← hacc, List.drop_eq_getElem_cons hi]; unfold flats; rw [List.flatMap_cons, List.append_assoc]) (by simp [fl]; omega)
            have hA : acc.length + [l[i].f0, l[i].f1].length < 17592186044416 := by simp; omega
            exact Evt.succ this (fun k => by simp only [boring_Merge.l1, if_pos c1, if_pos c2, rdL_at l i hi, Option.bind_some, if_pos hA, wrap_up i l.length hi (by omega)]; rfl)
        exact key 0 (by omega) [] (by simp) (by simp)
    · rw [if_pos h2]
      exact Evt.succ (g := fun _ => some _) (Evt.pure _) (fun k => by simp only [boring_Merge.l0, lY, if_pos k1, if_pos k4, r1, hfb, Option.bind_some, if_neg h2])
  · rw [if_pos h1]
    exact Evt.succ (g := fun _ => some _) (Evt.pure _) (fun k => by simp only [boring_Merge.l0, lY, if_pos k0, if_pos k3, r0, hfa, Option.bind_some, if_neg h1])
theorem ends_ev (n0 : ByteArray) (a b : Int) (la : List Lg) (m0 : ByteArray) (c d : Int) (lb : List Lg) (ha : la.length ≤ 70) (hb : lb.length ≤ 70) : Evt (fun k => gangsawref14_ends.f k n0 a b la m0 c d lb) (sortInt (flats (la ++ lb))) := by
  unfold gangsawref14_ends.f
  have m0' : ([] : List Lg).length + la.length < 5864062014805 := by simp; omega
  have m1 : ([] ++ la : List Lg).length + lb.length < 5864062014805 := by simp; omega
  have m2 : la.length + lb.length < 5864062014805 := by omega
  simp only [Option.bind_some, if_pos m0', List.nil_append, if_pos m2]
  have hlen : (la ++ lb).length ≤ 140 := by rw [List.length_append]; omega
  generalize la ++ lb = l at hlen
  have key : ∀ i, i ≤ l.length → ∀ acc : List Int, acc ++ flats (l.drop i) = flats l → acc.length ≤ 2 * i → Evt (fun k => gangsawref14_ends.l0 k acc l (i : Nat)) (sortInt (flats l)) := by
    refine down (P := fun i => ∀ acc : List Int, acc ++ flats (l.drop i) = flats l → acc.length ≤ 2 * i → Evt (fun k => gangsawref14_ends.l0 k acc l (i : Nat)) (sortInt (flats l))) ?_ ?_
    · intro acc hacc hle
      rw [List.drop_length] at hacc
      obtain rfl : acc = flats l := by simpa [flats] using hacc
      exact Evt.succ (ends_sort (flats l) (by rw [flats_len]; omega)) (fun k => by simp only [gangsawref14_ends.l0, Int.lt_irrefl, if_false])
    · intro i hi ih acc hacc hle
      have c1 : (i : Int) < (l.length : Int) := by omega
      have c2 : (0 : Int) ≤ (i : Int) := by omega
      have := ih (acc ++ fl l[i]) (by rw [← hacc, List.drop_eq_getElem_cons hi]; unfold flats; rw [List.flatMap_cons, List.append_assoc]) (by simp [fl]; omega)
      have hA : acc.length + [l[i].f0, l[i].f1].length < 17592186044416 := by simp; omega
      exact Evt.succ this (fun k => by simp only [gangsawref14_ends.l0, if_pos c1, if_pos c2, rdL_at l i hi, Option.bind_some, if_pos hA, wrap_up i l.length hi (by omega)]; rfl)
  exact key 0 (by omega) [] (by simp) (by simp)
theorem rmerge_ev (n0 : ByteArray) (a b : Int) (la : List Lg) (m0 : ByteArray) (c d : Int) (lb : List Lg) (hn : n0.size ≤ 9223372036854775807) (hm : m0.size ≤ 9223372036854775807) (ha : la.length ≤ 70) (hb : lb.length ≤ 70) : Evt (fun k => gangsawref14_Merge.f k n0 a b la m0 c d lb) (mergeV n0 a b la m0 c d lb) := by
  unfold gangsawref14_Merge.f mergeV
  refine Evt.bind (rformed_ev n0 a b la hn (by omega)) ?_
  by_cases h1 : formedV n0 a b la = 0
  · rw [if_neg (fun h => h h1)]
    simp only [if_pos h1]
    refine Evt.bind (rformed_ev m0 c d lb hm (by omega)) ?_
    by_cases h2 : formedV m0 c d lb = 0
    · rw [if_neg (fun h => h h2)]
      simp only [if_pos h2]
      by_cases h3 : (!(a == c) || !(b == d)) = true
      · simp only [if_pos h3]; exact Evt.pure _
      · simp only [if_neg h3]
        refine Evt.bind (ends_ev n0 a b la m0 c d lb ha hb) ?_
        have hsl : (sortInt (flats (la ++ lb))).length ≤ 280 := by
          have : (sortInt (flats (la ++ lb))).length = (flats (la ++ lb)).length := isort_len _
          rw [this, flats_len, List.length_append]; omega
        have := rmerge_l0 n0 a b la m0 c d lb ha hb (sortInt (flats (la ++ lb))) (by omega) 0 (by omega) [] (by simp)
        rw [List.drop_zero, mgR_cons (fun z => stV_nonneg z la (formed_any h1).1) (fun z => stV_nonneg z lb (formed_any h2).1)] at this
        exact this
    · rw [if_pos h2]
      simp only [if_neg h2]; exact Evt.pure _
  · rw [if_pos h1]
    simp only [if_neg h1]; exact Evt.pure _
theorem mergeV_len (n0 : ByteArray) (a b : Int) (la : List Lg) (m0 : ByteArray) (c d : Int) (lb : List Lg) (ha : la.length ≤ 70) (hb : lb.length ≤ 70) : (mergeV n0 a b la m0 c d lb).2.2.2.1.length ≤ 100000 := by
  unfold mergeV
  by_cases h1 : formedV n0 a b la ≠ 0
  · rw [if_pos h1]; exact Nat.zero_le _
  rw [if_neg h1]
  by_cases h2 : formedV m0 c d lb ≠ 0
  · rw [if_pos h2]; exact Nat.zero_le _
  rw [if_neg h2]
  by_cases h3 : (!(a == c) || !(b == d)) = true
  · rw [if_pos h3]; exact Nat.zero_le _
  rw [if_neg h3]
  cases hq : mgP (fun z => stV z la) (fun z => stV z lb) (dd (sortInt (flats (la ++ lb)))) [] with
  | none => exact Nat.zero_le _
  | some L =>
    have h4 := mgP_len _ _ _ _ L hq
    have h5 := dd_len (sortInt (flats (la ++ lb)))
    have h6 : (sortInt (flats (la ++ lb))).length = (flats (la ++ lb)).length := isort_len _
    rw [h6, flats_len, List.length_append] at h5
    have h7 := joinV_len L
    show (joinV L).length ≤ 100000
    simp at h4
    omega
theorem small_f (n0 : ByteArray) (a b : Int) (l : List Lg) : ∃ q, gangsawref14_Small.f n0 a b l = some q ∧ (q = true → l.length ≤ 70 ∧ n0.size ≤ 100) := by
  unfold gangsawref14_Small.f
  by_cases h1 : (l.length : Int) ≤ 70
  · rw [if_pos h1]
    exact ⟨_, rfl, fun h => by have := of_decide_eq_true h; omega⟩
  · rw [if_neg h1]; exact ⟨false, rfl, fun h => by cases h⟩
theorem BoringMerges : ∀ (x0 : S33) (x1 : S33), G33 x0 → G33 x1 → ∃ k, gangsawlaw14_BoringMerges.f k x0.f0 x0.f1.f0 x0.f1.f1 x0.f2 x1.f0 x1.f1.f0 x1.f1.f1 x1.f2 = some true := by
  intro x y hx hy
  refine Evt.exists_ (f := fun k => gangsawlaw14_BoringMerges.f k x.f0 x.f1.f0 x.f1.f1 x.f2 y.f0 y.f1.f0 y.f1.f1 y.f2) ?_
  generalize x.f0 = n0
  generalize x.f1.f0 = a
  generalize x.f1.f1 = b
  generalize x.f2 = la
  generalize y.f0 = m0
  generalize y.f1.f0 = c
  generalize y.f1.f1 = d
  generalize y.f2 = lb
  unfold gangsawlaw14_BoringMerges.f
  refine Evt.bind0 (g := gangsawlaw14_awake.f) rfl ?_
  simp only [if_true]
  have hend : Evt (fun k => gangsawlaw14_BoringMerges.j0 k true n0 a b la m0 c d lb) true := Evt.succ (g := fun _ => some true) (Evt.pure _) (fun k => by simp only [gangsawlaw14_BoringMerges.j0, if_true])
  obtain ⟨q, hq, h1⟩ := small_f n0 a b la
  rw [hq]
  cases q with
  | false => exact hend
  | true =>
  obtain ⟨ha, hn⟩ := h1 rfl
  simp only [Option.bind_some, if_true]
  obtain ⟨q, hq, h2⟩ := small_f m0 c d lb
  rw [hq]
  cases q with
  | false => exact hend
  | true =>
  obtain ⟨hb, hm⟩ := h2 rfl
  simp only [Option.bind_some, Bool.not_true]
  refine Evt.succ (g := fun k => (boring_Merge.f k n0 a b la m0 c d lb).bind fun u => (gangsawref14_Merge.f k n0 a b la m0 c d lb).bind fun v => if u.2.2.2.2 = v.2.2.2.2 then ((gangsawref14_Equal.f k u.1 u.2.1 u.2.2.1 u.2.2.2.1 v.1 v.2.1 v.2.2.1 v.2.2.2.1).bind fun t => some t) else some false) ?_ (fun k => by simp only [gangsawlaw14_BoringMerges.j0, Bool.false_eq_true, if_false])
  refine Evt.bind (merge_ev n0 a b la m0 c d lb ha hb) (Evt.bind (rmerge_ev n0 a b la m0 c d lb (by omega) (by omega) ha hb) ?_)
  simp only [if_true]
  exact Evt.bind (equal_ev _ _ _ _ (mergeV_len n0 a b la m0 c d lb ha hb)) (Evt.pure _)
end Go.Proofs.YtfedmcehkpfciaaGreat.Pure
