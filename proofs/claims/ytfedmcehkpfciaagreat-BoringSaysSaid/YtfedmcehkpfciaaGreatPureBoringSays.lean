/-
  BoringSays: the plain law.
-/
import Derived.Test.YtfedmcehkpfciaaGreatKs
import Derived.Test.YtfedmcehkpfciaaGreatPBoring
import Derived.Test.YtfedmcehkpfciaaGreatPx17
import Derived.Test.YtfedmcehkpfciaaGreatPx14
import Derived.Test.YtfedmcehkpfciaaGreatPx16
import Derived.Test.YtfedmcehkpfciaaGreatPx15
import Derived.Test.YtfedmcehkpfciaaGreatPx11
set_option linter.unusedVariables false
set_option linter.unusedSimpArgs false
namespace Go.Proofs.YtfedmcehkpfciaaGreat.Pure
open Go.RowKit Go.Proofs.YtfedmcehkpfciaaGreatW.PrintWords Go.Proofs.YtfedmcehkpfciaaGreatW.PrintLast Go.Proofs.YtfedmcehkpfciaaGreat.P Go.Proofs.YtfedmcehkpfciaaGreat.Open Go.Proofs.YtfedmcehkpfciaaGreat.Ks Go.Proofs.YtfedmcehkpfciaaGreat.Rnd Go.Proofs.YtfedmcehkpfciaaGreat.Awk Go.Proofs.YtfedmcehkpfciaaGreat.PBoring Go.Proofs.YtfedmcehkpfciaaGreat.Hof
abbrev Ev := S46
def evi (n0 : ByteArray) (a b : Int) (x : Lg) : Ev := ⟨n0, ⟨⟨a, b, x.f0⟩, ⟨wrap64 (a + 1), wrap64 (b + 1), x.f1⟩⟩, x.f2⟩
def evidenceV (n0 : ByteArray) (a b : Int) (l : List Lg) : List Ev × Int := if formedV n0 a b l = 0 then ((joinV l).map (evi n0 a b), 0) else ([], formedV n0 a b l)
theorem ev_loop (n0 : ByteArray) (a b : Int) (l0 : List Lg) (l : List Lg) (hl : l.length ≤ 70) : Evt (fun k => boring_Evidence.l0 k [] l l.length 0 n0 a b l0) (l.map (evi n0 a b), 0) := by
  have key : ∀ i, i ≤ l.length → ∀ acc : List Ev, acc.length = i → Evt (fun k => boring_Evidence.l0 k acc l l.length (i : Nat) n0 a b l0) (acc ++ (l.drop i).map (evi n0 a b), 0) := by
    refine down (P := fun i => ∀ acc : List Ev, acc.length = i → Evt (fun k => boring_Evidence.l0 k acc l l.length (i : Nat) n0 a b l0) (acc ++ (l.drop i).map (evi n0 a b), 0)) ?_ ?_
    · intro acc _
      rw [List.drop_length, List.map_nil, List.append_nil]
      exact Evt.succ (g := fun _ => some (acc, 0)) (Evt.pure _) (fun k => by simp only [boring_Evidence.l0, Int.lt_irrefl, if_false])
    · intro i hi ih acc ha
      rw [drop_cons l i hi, List.map_cons]
      have := ih (acc ++ [evi n0 a b l[i]]) (by simp [ha])
      rw [List.append_assoc, List.singleton_append] at this
      have c1 : (i : Int) < (l.length : Int) := by omega
      have c2 : (0 : Int) ≤ (i : Int) := by omega
      have hA : acc.length < 1954687338268 := by omega
      refine Evt.succ this (fun k => ?_)
      simp only [boring_Evidence.l0, if_pos c1, if_pos c2, rdL_at l i hi, boring_column.f, Option.bind_some, if_pos hA, wrap_up i l.length hi (by omega)]
      rfl
  exact key 0 (by omega) [] rfl
theorem rev_loop (n0 : ByteArray) (a b : Int) (l0 : List Lg) (m0 : ByteArray) (c d : Int) (l : List Lg) (hl : l.length ≤ 70) : Evt (fun k => gangsawref14_Evidence.l0 k [] 0 n0 a b l0 m0 c d l) (l.map (evi n0 a b), 0) := by
  have key : ∀ i, i ≤ l.length → ∀ acc : List Ev, acc.length = i → Evt (fun k => gangsawref14_Evidence.l0 k acc (i : Nat) n0 a b l0 m0 c d l) (acc ++ (l.drop i).map (evi n0 a b), 0) := by
    refine down (P := fun i => ∀ acc : List Ev, acc.length = i → Evt (fun k => gangsawref14_Evidence.l0 k acc (i : Nat) n0 a b l0 m0 c d l) (acc ++ (l.drop i).map (evi n0 a b), 0)) ?_ ?_
    · intro acc _
      rw [List.drop_length, List.map_nil, List.append_nil]
      exact Evt.succ (g := fun _ => some (acc, 0)) (Evt.pure _) (fun k => by simp only [gangsawref14_Evidence.l0, Int.lt_irrefl, if_false])
    · intro i hi ih acc ha
      rw [drop_cons l i hi, List.map_cons]
      have := ih (acc ++ [evi n0 a b l[i]]) (by simp [ha])
      rw [List.append_assoc, List.singleton_append] at this
      have c1 : (i : Int) < (l.length : Int) := by omega
      have c2 : (0 : Int) ≤ (i : Int) := by omega
      have hA : acc.length < 1954687338268 := by omega
      refine Evt.succ this (fun k => ?_)
      simp only [gangsawref14_Evidence.l0, if_pos c1, if_pos c2, rdL_at l i hi, gangsawref14_column.f, Option.bind_some, if_pos hA, wrap_up i l.length hi (by omega)]
      rfl
  exact key 0 (by omega) [] rfl
theorem evidence_ev (n0 : ByteArray) (a b : Int) (l : List Lg) (hl : l.length ≤ 70) : Evt (fun k => boring_Evidence.f k n0 a b l) (evidenceV n0 a b l) := by
  unfold boring_Evidence.f evidenceV
  refine Evt.bind (normal_ev n0 a b l hl) ?_
  unfold normalV
  by_cases h : formedV n0 a b l = 0
  · simp only [if_pos h, if_true]
    exact ev_loop n0 a b l (joinV l) (by have := joinV_len l; omega)
  · simp only [if_neg h]; exact Evt.pure _
theorem revidence_ev (n0 : ByteArray) (a b : Int) (l : List Lg) (hn : n0.size ≤ 9223372036854775807) (hl : l.length ≤ 70) : Evt (fun k => gangsawref14_Evidence.f k n0 a b l) (evidenceV n0 a b l) := by
  unfold gangsawref14_Evidence.f evidenceV
  refine Evt.bind (rnormal_ev n0 a b l hn hl) ?_
  unfold normalV
  by_cases h : formedV n0 a b l = 0
  · simp only [if_pos h, if_true]
    exact rev_loop n0 a b l n0 a b (joinV l) (by have := joinV_len l; omega)
  · simp only [if_neg h]; exact Evt.pure _
theorem evidenceV_len (n0 : ByteArray) (a b : Int) (l : List Lg) (hl : l.length ≤ 70) : (evidenceV n0 a b l).1.length ≤ 70 := by
  unfold evidenceV
  by_cases h : formedV n0 a b l = 0
  · rw [if_pos h]; have := joinV_len l; simp; omega
  · rw [if_neg h]; exact Nat.zero_le _
def sm (st : Int) (s : Int × Int) (x : Lg) : Int × Int := if x.f2 = st then (wrap64 (s.1 + wrap64 (x.f1 - x.f0)), mx s.2 (wrap64 (x.f1 - x.f0))) else s
def bad0 (x : Lg) : Bool := decide (x.f0 ≥ x.f1)
def seenV (l : List Lg) (st : Int) : Int × Int := if (st = 1 ∨ st = 2) ∧ incV l = true ∧ l.any bad0 = false then (joinV l).foldl (sm st) (0, 0) else (0, 0)
theorem sm_loop (st : Int) (l : List Lg) (hl : l.length ≤ 70) : Evt (fun k => boring_Seen.l0 k st 0 0 l l.length 0) (l.foldl (sm st) (0, 0)) := by
  have key : ∀ i, i ≤ l.length → ∀ s : Int × Int, Evt (fun k => boring_Seen.l0 k st s.1 s.2 l l.length (i : Nat)) ((l.drop i).foldl (sm st) s) := by
    refine down (P := fun i => ∀ s : Int × Int, Evt (fun k => boring_Seen.l0 k st s.1 s.2 l l.length (i : Nat)) ((l.drop i).foldl (sm st) s)) ?_ ?_
    · intro s
      rw [List.drop_length]
      exact Evt.succ (g := fun _ => some s) (Evt.pure _) (fun k => by simp only [boring_Seen.l0, Int.lt_irrefl, if_false])
    · intro i hi ih s
      rw [drop_cons l i hi, List.foldl_cons]
      have c1 : (i : Int) < (l.length : Int) := by omega
      have c2 : (0 : Int) ≤ (i : Int) := by omega
      have := ih (sm st s l[i])
      refine Evt.succ this (fun k => ?_)
      simp only [boring_Seen.l0, if_pos c1, if_pos c2, rdL_at l i hi, wrap_up i l.length hi (by omega)]
      unfold sm
      by_cases h : l[i].f2 = st
      · rw [if_pos h, if_pos h]
      · rw [if_neg h, if_neg h]
  exact key 0 (by omega) (0, 0)
theorem rsm_loop (st : Int) (l : List Lg) (hl : l.length ≤ 70) : Evt (fun k => gangsawref14_Seen.l1 k st 0 0 l 0) (l.foldl (sm st) (0, 0)) := by
  have key : ∀ i, i ≤ l.length → ∀ s : Int × Int, Evt (fun k => gangsawref14_Seen.l1 k st s.1 s.2 l (i : Nat)) ((l.drop i).foldl (sm st) s) := by
    refine down (P := fun i => ∀ s : Int × Int, Evt (fun k => gangsawref14_Seen.l1 k st s.1 s.2 l (i : Nat)) ((l.drop i).foldl (sm st) s)) ?_ ?_
    · intro s
      rw [List.drop_length]
      exact Evt.succ (g := fun _ => some s) (Evt.pure _) (fun k => by simp only [gangsawref14_Seen.l1, Int.lt_irrefl, if_false])
    · intro i hi ih s
      rw [drop_cons l i hi, List.foldl_cons]
      have c1 : (i : Int) < (l.length : Int) := by omega
      have c2 : (0 : Int) ≤ (i : Int) := by omega
      have := ih (sm st s l[i])
      refine Evt.succ this (fun k => ?_)
      simp only [gangsawref14_Seen.l1, if_pos c1, if_pos c2, rdL_at l i hi, wrap_up i l.length hi (by omega)]
      unfold sm
      by_cases h : l[i].f2 = st
      · rw [if_pos h, if_pos h]
      · rw [if_neg h, if_neg h]
  exact key 0 (by omega) (0, 0)
theorem seen_ev (n0 : ByteArray) (a b : Int) (l : List Lg) (st : Int) (hl : l.length ≤ 70) : Evt (fun k => boring_Seen.f k n0 a b l st) (seenV l st) := by
  unfold boring_Seen.f seenV
  have hj : ∀ q : Bool, Evt (fun k => boring_Seen.j0 k st q n0 a b l) (if q = false then (joinV l).foldl (sm st) (0, 0) else (0, 0)) := fun q => by
    cases q with
    | true => exact Evt.succ (g := fun _ => some (0, 0)) (Evt.pure _) (fun k => by simp only [boring_Seen.j0, if_true])
    | false =>
      refine Evt.succ (g := fun k => (boring_joined.f k l).bind fun t => boring_Seen.l0 k st 0 0 t (t.length : Int) 0) ?_ (fun k => by simp only [boring_Seen.j0, Bool.false_eq_true, if_false])
      exact Evt.bind (joined_ev l hl) (sm_loop st (joinV l) (by have := joinV_len l; omega))
  have hb : boring_some.f n0 a b l (fun x_ => boring_Seen_1.f x_.f0 x_.f1 x_.f2) = some (l.any bad0) := some1_f n0 a b l bad0 _ (fun x => rfl)
  have body : (st = 1 ∨ st = 2) → Evt (fun k => (boring_increasing.f k n0 a b l).bind fun t => if t = true then (boring_some.f n0 a b l (fun x_ => boring_Seen_1.f x_.f0 x_.f1 x_.f2)).bind fun u => boring_Seen.j0 k st u n0 a b l else boring_Seen.j0 k st true n0 a b l) (if (st = 1 ∨ st = 2) ∧ incV l = true ∧ l.any bad0 = false then (joinV l).foldl (sm st) (0, 0) else (0, 0)) := fun hst => by
    refine Evt.bind (inc_ev n0 a b l (by omega)) ?_
    cases hi : incV l with
    | false =>
      rw [if_neg (fun c => by cases c.2.1)]
      exact hj true
    | true =>
      simp only [if_true, hb, Option.bind_some]
      have := hj (l.any bad0)
      cases ha : l.any bad0 with
      | false => rw [ha] at this; rw [if_pos ⟨hst, by first | rfl | trivial, by first | rfl | trivial⟩]; exact this
      | true => rw [ha] at this; rw [if_neg (fun c => by cases c.2.2)]; exact this
  by_cases h1 : st = 1
  · simp only [if_pos h1]; exact body (.inl h1)
  · by_cases h2 : st = 2
    · simp only [if_neg h1, if_pos h2]; exact body (.inr h2)
    · simp only [if_neg h1, if_neg h2]
      rw [if_neg (fun c => by rcases c.1 with c | c; exact h1 c; exact h2 c)]
      exact hj true
theorem rseen_ev (n0 : ByteArray) (a b : Int) (l : List Lg) (st : Int) (hl : l.length ≤ 70) : Evt (fun k => gangsawref14_Seen.f k n0 a b l st) (seenV l st) := by
  unfold gangsawref14_Seen.f seenV
  have hloop : Evt (fun k => gangsawref14_Seen.l0 k st 0 n0 a b l) (if l.any bad0 = true then (0, 0) else (joinV l).foldl (sm st) (0, 0)) := by
    refine Evt.any_list (F := fun k i => gangsawref14_Seen.l0 k st i n0 a b l) bad0 (0, 0) ?_ ?_ ?_
    · refine Evt.succ (g := fun k => (gangsawref14_joined.f k l).bind fun t => gangsawref14_Seen.l1 k st 0 0 t 0) ?_ (fun k => by simp only [gangsawref14_Seen.l0, Int.lt_irrefl, if_false])
      exact Evt.bind (rjoined_ev l hl) (rsm_loop st (joinV l) (by have := joinV_len l; omega))
    · intro i hi hb
      refine Evt.succ (g := fun _ => some (0, 0)) (Evt.pure _) (fun k => ?_)
      simp only [gangsawref14_Seen.l0, rdL_at l i hi]
      rw [if_pos (by omega), if_pos (by omega), if_pos (of_decide_eq_true hb)]
    · intro i hi hb v hv
      refine Evt.succ hv (fun k => ?_)
      simp only [gangsawref14_Seen.l0, rdL_at l i hi, wrap_up i l.length hi (by omega)]
      rw [if_pos (by omega), if_pos (by omega), if_neg (of_decide_eq_false hb)]
  have hj : ∀ q : Bool, Evt (fun k => gangsawref14_Seen.j0 k st q n0 a b l) (if q = false ∧ l.any bad0 = false then (joinV l).foldl (sm st) (0, 0) else (0, 0)) := fun q => by
    cases q with
    | true => exact Evt.succ (g := fun _ => some (0, 0)) (Evt.pure _) (fun k => by simp only [gangsawref14_Seen.j0, if_true])
    | false =>
      refine Evt.succ (g := fun k => gangsawref14_Seen.l0 k st 0 n0 a b l) ?_ (fun k => by simp only [gangsawref14_Seen.j0, Bool.false_eq_true, if_false])
      cases ha : l.any bad0 with
      | false => rw [ha] at hloop; exact hloop
      | true => rw [ha] at hloop; exact hloop
  have body : (st = 1 ∨ st = 2) → Evt (fun k => (gangsawref14_stacked.f k n0 a b l).bind fun t => gangsawref14_Seen.j0 k st (!t) n0 a b l) (if (st = 1 ∨ st = 2) ∧ incV l = true ∧ l.any bad0 = false then (joinV l).foldl (sm st) (0, 0) else (0, 0)) := fun hst => by
    refine Evt.bind (rinc_ev n0 a b l (by omega)) ?_
    have := hj (!incV l)
    cases hi : incV l with
    | false => rw [hi] at this; rw [if_neg (fun c => by cases c.2.1)]; exact this
    | true =>
      rw [hi] at this
      cases ha : l.any bad0 with
      | false => rw [ha] at this; rw [if_pos ⟨hst, by first | rfl | trivial, by first | rfl | trivial⟩]; exact this
      | true => rw [ha] at this; rw [if_neg (fun c => by cases c.2.2)]; exact this
  by_cases h1 : st = 1
  · simp only [if_pos h1]; exact body (.inl h1)
  · by_cases h2 : st = 2
    · simp only [if_neg h1, if_pos h2]; exact body (.inr h2)
    · simp only [if_neg h1, if_neg h2]
      rw [if_neg (fun c => by rcases c.1 with c | c; exact h1 c; exact h2 c)]
      exact hj true
theorem BoringSays : ∀ (x0 : S33) (x1 : Int) (x2 : Int), G33 x0 → (GInt .i64) x1 → (GInt .i64) x2 → ∃ k, gangsawlaw14_BoringSays.f k x0.f0 x0.f1.f0 x0.f1.f1 x0.f2 x1 x2 = some true := by
  intro x z st hx hz hst
  refine Evt.exists_ (f := fun k => gangsawlaw14_BoringSays.f k x.f0 x.f1.f0 x.f1.f1 x.f2 z st) ?_
  generalize x.f0 = n0
  generalize x.f1.f0 = a
  generalize x.f1.f1 = b
  generalize x.f2 = l
  unfold gangsawlaw14_BoringSays.f
  refine Evt.bind0 (g := gangsawlaw14_awake.f) rfl ?_
  simp only [if_true]
  obtain ⟨q, hq, hb⟩ : ∃ q, gangsawref14_Small.f n0 a b l = some q ∧ (q = true → l.length ≤ 70 ∧ n0.size ≤ 100) := by
    unfold gangsawref14_Small.f
    by_cases h1 : (l.length : Int) ≤ 70
    · rw [if_pos h1]
      exact ⟨_, rfl, fun h => by have := of_decide_eq_true h; omega⟩
    · rw [if_neg h1]; exact ⟨false, rfl, fun h => by cases h⟩
  rw [hq]
  cases q with
  | false => exact Evt.const (fun k => rfl)
  | true =>
  obtain ⟨hl, hn⟩ := hb rfl
  have hn' : n0.size ≤ 9223372036854775807 := by omega
  simp only [Option.bind_some, if_true]
  refine Evt.bind (normal_ev n0 a b l hl) (Evt.bind (rnormal_ev n0 a b l hn' hl) (Evt.bind (evidence_ev n0 a b l hl) (Evt.bind (revidence_ev n0 a b l hn' hl) (Evt.bind (state_ev n0 a b l z (by omega)) (Evt.bind (rstate_ev n0 a b l z (by omega)) ?_)))))
  simp only [if_true]
  refine Evt.bind (equal_ev _ _ _ _ (normalV_len n0 a b l hl)) ?_
  simp only [if_true, bne_self_eq_false]
  have hev := evidenceV_len n0 a b l hl
  generalize (evidenceV n0 a b l).1 = E at hev
  refine Evt.succ (g := fun k => gangsawlaw14_BoringSays.l0 k st E E 0 n0 a b l) ?_ (fun k => by simp only [gangsawlaw14_BoringSays.j0, Bool.false_eq_true, if_false])
  -- the rest
  have hl1 : Evt (fun k => gangsawlaw14_BoringSays.l1 k st 0 n0 a b l) true := by
    have key : ∀ i, i ≤ l.length → Evt (fun k => gangsawlaw14_BoringSays.l1 k st (i : Nat) n0 a b l) true := by
      refine down ?_ ?_
      · refine Evt.succ (g := fun k => (boring_Seen.f k n0 a b l st).bind fun u => (gangsawref14_Seen.f k n0 a b l st).bind fun v => if u.1 = v.1 then some (u.2 == v.2) else some false) ?_ (fun k => by simp only [gangsawlaw14_BoringSays.l1, Int.lt_irrefl, if_false])
        refine Evt.bind (seen_ev n0 a b l st hl) (Evt.bind (rseen_ev n0 a b l st hl) ?_)
        simp only [if_true, beq_self_eq_true]
        exact Evt.pure _
      · intro i hi ih
        have c1 : (i : Int) < (l.length : Int) := by omega
        have c2 : (0 : Int) ≤ (i : Int) := by omega
        by_cases h1 : l[i].f0 < -1000000
        · exact Evt.succ (g := fun _ => some true) (Evt.pure _) (fun k => by simp only [gangsawlaw14_BoringSays.l1, if_pos c1, if_pos c2, rdL_at l i hi, if_pos h1])
        · by_cases h2 : l[i].f1 > 1000000
          · exact Evt.succ (g := fun _ => some true) (Evt.pure _) (fun k => by simp only [gangsawlaw14_BoringSays.l1, if_pos c1, if_pos c2, rdL_at l i hi, if_neg h1, if_pos h2])
          · exact Evt.succ ih (fun k => by simp only [gangsawlaw14_BoringSays.l1, if_pos c1, if_pos c2, rdL_at l i hi, if_neg h1, if_neg h2, wrap_up i l.length hi (by omega)])
    exact key 0 (by omega)
  have key : ∀ i, i ≤ E.length → Evt (fun k => gangsawlaw14_BoringSays.l0 k st E E (i : Nat) n0 a b l) true := by
    refine down ?_ ?_
    · exact Evt.succ hl1 (fun k => by simp only [gangsawlaw14_BoringSays.l0, Int.lt_irrefl, if_false])
    · intro i hi ih
      have c1 : (i : Int) < (E.length : Int) := by omega
      have c2 : (0 : Int) ≤ (i : Int) := by omega
      exact Evt.succ ih (fun k => by simp only [gangsawlaw14_BoringSays.l0, if_pos c1, if_pos c2, beq_self_eq_true, Bool.not_true, Bool.or_false, Bool.false_eq_true, if_false, wrap_up i E.length hi (by omega)])
  exact key 0 (by omega)
end Go.Proofs.YtfedmcehkpfciaaGreat.Pure
