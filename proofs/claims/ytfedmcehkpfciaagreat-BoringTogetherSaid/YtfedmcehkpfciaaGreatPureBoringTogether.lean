/-
  BoringTogether: the plain law.
-/
import Derived.Test.YtfedmcehkpfciaaGreatKs
import Derived.Test.YtfedmcehkpfciaaGreatPTogether
import Derived.Test.YtfedmcehkpfciaaGreatPx30
set_option linter.unusedVariables false
set_option linter.unusedSimpArgs false
namespace Go.Proofs.YtfedmcehkpfciaaGreat.Pure
open Go.RowKit Go.Proofs.YtfedmcehkpfciaaGreatW.PrintWords Go.Proofs.YtfedmcehkpfciaaGreatW.PrintLast Go.Proofs.YtfedmcehkpfciaaGreat.P Go.Proofs.YtfedmcehkpfciaaGreat.Open Go.Proofs.YtfedmcehkpfciaaGreat.Ks Go.Proofs.YtfedmcehkpfciaaGreat.Rnd Go.Proofs.YtfedmcehkpfciaaGreat.Awk Go.Proofs.YtfedmcehkpfciaaGreat.PBoring Go.Proofs.YtfedmcehkpfciaaGreat.Sort Go.Proofs.YtfedmcehkpfciaaGreat.PMerge Go.Proofs.YtfedmcehkpfciaaGreat.PTogether
theorem merge_cases (n0 : ByteArray) (a b : Int) (la : List Lg) (m0 : ByteArray) (c d : Int) (lb : List Lg) :
    ((mergeV n0 a b la m0 c d lb).2.2.2.2 ≠ 0 ∧ (mergeV n0 a b la m0 c d lb).2.2.2.1 = [] ∧ (mergeV m0 c d lb n0 a b la).2.2.2.2 ≠ 0) ∨
    ∃ L, formedV n0 a b la = 0 ∧ formedV m0 c d lb = 0 ∧ mgP (fun z => stV z la) (fun z => stV z lb) (cuts la lb) [] = some L ∧ mergeV n0 a b la m0 c d lb = (n0, a, b, joinV L, 0) ∧ mergeV m0 c d lb n0 a b la = (m0, c, d, joinV L, 0) := by
  unfold mergeV
  by_cases h1 : formedV n0 a b la = 0
  · by_cases h2 : formedV m0 c d lb = 0
    · simp only [ne_eq, h1, h2, not_true, if_false]
      by_cases h3 : (!(a == c) || !(b == d)) = true
      · have h3' : (!(c == a) || !(d == b)) = true := by
          rw [Bool.or_eq_true, Bool.not_eq_true', Bool.not_eq_true', beq_eq_false_iff_ne, beq_eq_false_iff_ne] at h3 ⊢
          rcases h3 with h | h
          · exact .inl (fun e => h e.symm)
          · exact .inr (fun e => h e.symm)
        rw [if_pos h3, if_pos h3']
        exact .inl ⟨by decide, rfl, by decide⟩
      · have h3' : ¬ (!(c == a) || !(d == b)) = true := by
          rw [Bool.or_eq_true, Bool.not_eq_true', Bool.not_eq_true', beq_eq_false_iff_ne, beq_eq_false_iff_ne] at h3 ⊢
          intro h
          rcases h with h | h
          · exact h3 (.inl (fun e => h e.symm))
          · exact h3 (.inr (fun e => h e.symm))
        rw [if_neg h3, if_neg h3']
        have e1 : dd (sortInt (flats (la ++ lb))) = cuts la lb := rfl
        have e2 : dd (sortInt (flats (lb ++ la))) = cuts la lb := cuts_comm lb la
        rw [e1, e2, mgP_comm (fun z => stV z lb) (fun z => stV z la)]
        cases hq : mgP (fun z => stV z la) (fun z => stV z lb) (cuts la lb) [] with
        | none => exact .inl ⟨(show ¬ (10 : Int) = 0 by decide), rfl, (show ¬ (10 : Int) = 0 by decide)⟩
        | some L => exact .inr ⟨L, trivial, trivial, rfl, rfl, rfl⟩
    · rw [if_neg (fun h => h h1), if_pos h2, if_pos h2]
      exact .inl ⟨h2, rfl, h2⟩
  · rw [if_pos h1]
    by_cases h2 : formedV m0 c d lb = 0
    · rw [if_neg (fun h => h h2), if_pos h1]
      exact .inl ⟨h1, rfl, h1⟩
    · rw [if_pos h2]
      exact .inl ⟨h1, rfl, h2⟩
theorem self_V (n0 : ByteArray) (a b : Int) (la : List Lg) (h : formedV n0 a b la = 0) : mergeV n0 a b la n0 a b la = (n0, a, b, joinV la, 0) ∧ normalV n0 a b la = (n0, a, b, joinV la, 0) := by
  obtain ⟨hi, hb⟩ := formed_inc h
  refine ⟨?_, by unfold normalV; rw [if_pos h]⟩
  have hs : mgP (fun z => stV z la) (fun z => stV z la) (dd (sortInt (flats (la ++ la)))) [] = some la := self_merge la hi hb
  unfold mergeV
  rw [if_neg (fun e => e h), if_neg (fun e => e h), if_neg (by simp), hs]
  rfl
theorem together_end (n0 : ByteArray) (a b : Int) (la : List Lg) (m0 : ByteArray) (c d : Int) (J : List Lg) (ha : la.length ≤ 70) (h : formedV n0 a b la = 0) (hJ : J.length ≤ 100000) : Evt (fun k => gangsawlaw14_BoringTogether.l0 k 0 n0 a b la n0 a b J m0 c d J) true := by
  have hend : Evt (fun k => gangsawlaw14_BoringTogether.l0 k (J.length : Nat) n0 a b la n0 a b J m0 c d J) true := by
    refine Evt.succ (g := fun k => gangsawlaw14_BoringTogether.l0 (k + 1) (J.length : Nat) n0 a b la n0 a b J m0 c d J) ?_ (fun _ => rfl)
    simp only [gangsawlaw14_BoringTogether.l0, Int.lt_irrefl, if_false]
    obtain ⟨h1, h2⟩ := self_V n0 a b la h
    refine Evt.bind (merge_ev n0 a b la n0 a b la ha ha) (Evt.bind (normal_ev n0 a b la ha) ?_)
    rw [h1, h2]
    simp only [if_true]
    exact Evt.bind (equal_ev n0 a b (joinV la) (by have := joinV_len la; omega)) (Evt.pure _)
  have key : ∀ i, i ≤ J.length → Evt (fun k => gangsawlaw14_BoringTogether.l0 k (i : Nat) n0 a b la n0 a b J m0 c d J) true := by
    refine down hend ?_
    intro i hi ih
    have c1 : (i : Int) < (J.length : Int) := by omega
    have c2 : (0 : Int) ≤ (i : Int) := by omega
    exact Evt.succ ih (fun k => by simp only [gangsawlaw14_BoringTogether.l0, if_pos c1, if_pos c2, rdL_at J i hi, beq_self_eq_true, Bool.not_true, Bool.or_self, Bool.false_eq_true, if_false, wrap_up i J.length hi (by omega)])
  exact key 0 (by omega)
theorem BoringTogether : ∀ (x0 : S33) (x1 : S33) (x2 : Int), G33 x0 → G33 x1 → (GInt .i64) x2 → ∃ k, gangsawlaw14_BoringTogether.f k x0.f0 x0.f1.f0 x0.f1.f1 x0.f2 x1.f0 x1.f1.f0 x1.f1.f1 x1.f2 x2 = some true := by
  intro x y z hx hy hz
  refine Evt.exists_ (f := fun k => gangsawlaw14_BoringTogether.f k x.f0 x.f1.f0 x.f1.f1 x.f2 y.f0 y.f1.f0 y.f1.f1 y.f2 z) ?_
  generalize x.f0 = n0
  generalize x.f1.f0 = a
  generalize x.f1.f1 = b
  generalize x.f2 = la
  generalize y.f0 = m0
  generalize y.f1.f0 = c
  generalize y.f1.f1 = d
  generalize y.f2 = lb
  unfold gangsawlaw14_BoringTogether.f
  refine Evt.bind0 (g := gangsawlaw14_awake.f) rfl ?_
  simp only [if_true]
  have hend : Evt (fun k => gangsawlaw14_BoringTogether.j0 k z true n0 a b la m0 c d lb) true := Evt.succ (g := fun _ => some true) (Evt.pure _) (fun k => by simp only [gangsawlaw14_BoringTogether.j0, if_true])
  obtain ⟨q, hq, h1⟩ := small_f n0 a b la
  rw [hq]
  cases q with
  | false => exact hend
  | true =>
  obtain ⟨ha, hn⟩ := h1 rfl
  simp only [Option.bind_some, if_true]
  obtain ⟨q, hq, h2⟩ := small_f m0 c d lb
  rw [hq]
  cases q with
  | false => exact hend
  | true =>
  obtain ⟨hb, hm⟩ := h2 rfl
  simp only [Option.bind_some, Bool.not_true]
  refine Evt.succ (g := fun k => gangsawlaw14_BoringTogether.j0 (k + 1) z false n0 a b la m0 c d lb) ?_ (fun _ => rfl)
  simp only [gangsawlaw14_BoringTogether.j0, Bool.false_eq_true, if_false]
  have hlen := mergeV_len n0 a b la m0 c d lb ha hb
  refine Evt.bind (merge_ev n0 a b la m0 c d lb ha hb) (Evt.bind (merge_ev m0 c d lb n0 a b la hb ha) ?_)
  rcases merge_cases n0 a b la m0 c d lb with ⟨e1, e2, e3⟩ | ⟨L, f1, f2, hL, v1, v2⟩
  · have e4 : ((mergeV n0 a b la m0 c d lb).2.2.2.1.length : Int) = 0 := by rw [e2]; rfl
    simp only [if_neg e1, if_pos e4]
    rw [bne_iff_ne.mpr e3]
    exact Evt.pure _
  · rw [v1] at hlen
    rw [v1, v2]
    simp only [if_true]
    obtain ⟨ia, ba⟩ := formed_inc f1
    obtain ⟨ib, bb⟩ := formed_inc f2
    have hst := merged_st la lb ba bb z L ia ib hL
    refine Evt.bind (state_ev n0 a b la z (by omega)) (Evt.bind (state_ev m0 c d lb z (by omega)) (Evt.bind (state_ev n0 a b (joinV L) z (by have : (joinV L).length ≤ 100000 := hlen; omega)) ?_))
    rw [hst]
    have hfin : ∀ s : Int, Evt (fun k => gangsawlaw14_BoringTogether.j1 k 0 s s n0 a b la m0 c d lb n0 a b (joinV L) m0 c d (joinV L)) true := by
      intro s
      refine Evt.succ (g := fun k => gangsawlaw14_BoringTogether.j2 k (s != s) n0 a b la n0 a b (joinV L) m0 c d (joinV L)) ?_ (fun k => by simp only [gangsawlaw14_BoringTogether.j1, if_true])
      have hs : (s != s) = false := bne_self_eq_false s
      simp only [hs]
      exact Evt.succ (together_end n0 a b la m0 c d (joinV L) ha f1 hlen) (fun k => by simp only [gangsawlaw14_BoringTogether.j2, Bool.false_eq_true, if_false])
    unfold oz
    by_cases s0 : stV z la = 0
    · rw [if_pos s0]; simp only [if_pos s0]; exact hfin _
    · rw [if_neg s0]; simp only [if_neg s0]; exact hfin _
end Go.Proofs.YtfedmcehkpfciaaGreat.Pure
