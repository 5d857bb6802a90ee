/-
  SawChoices: the plain law.
-/
import Derived.Test.YtlbpdhjdlnhciaaPSaw
import Derived.Test.YtlbpdhjdlnhciaaPx11
set_option linter.unusedVariables false
set_option linter.unusedSimpArgs false
namespace Go.Proofs.Ytlbpdhjdlnhciaa.Pure
open Go.RowKit Go.Proofs.YtlbpdhjdlnhciaaW.PrintWords Go.Proofs.YtlbpdhjdlnhciaaW.PrintLast Go.Proofs.Ytlbpdhjdlnhciaa.Awk Go.Proofs.Ytlbpdhjdlnhciaa.P Go.Proofs.Ytlbpdhjdlnhciaa.Rnd Go.Proofs.Ytlbpdhjdlnhciaa.Open Go.Proofs.Ytlbpdhjdlnhciaa.Ks Go.Proofs.Ytlbpdhjdlnhciaa.PSaw Go.Proofs.Ytlbpdhjdlnhciaa.Sym
/-- the choice among the saws that are left, by both -/
theorem choose_loop (l : List Sw) (a b c d e f x k0 : Int) (hl : l.length ≤ 32) (hx : 0 ≤ x ∧ x ≤ 2) (hsp : ∀ s ∈ l, 1 ≤ s.f5) : ∀ i, i ≤ l.length → ∀ m : Int, m < l.length → ∃ v, Evt (fun k => saw_choose.l0 k l x k0 m l (l.length : Int) (i : Nat) a b c d e f) v ∧ Evt (fun k => gangsawref29_Choose.l0 k l x k0 m (i : Nat) a b c d e f) v := by
  obtain ⟨A, hA⟩ := area_some a b c d e f x hx
  refine down ?_ ?_
  · intro m hm
    exact ⟨m, Evt.succ (g := fun _ => some m) (Evt.pure _) (fun k => by simp only [saw_choose.l0, Int.lt_irrefl, if_false]), Evt.succ (g := fun _ => some m) (Evt.pure _) (fun k => by simp only [gangsawref29_Choose.l0, Int.lt_irrefl, if_false])⟩
  · intro i hi ih m hm
    obtain ⟨r, hr⟩ := can_some l[i].f0 l[i].f1 l[i].f2.f0 l[i].f2.f1 l[i].f2.f2 l[i].f3 l[i].f4 l[i].f5 a b c d e f x k0 hx
    have hw := wrap_up i l.length hi (by omega)
    have hsi := hsp l[i] (List.getElem_mem _)
    by_cases hr0 : r = 0
    · by_cases hm0 : m < 0
      · obtain ⟨v, h1, h2⟩ := ih i (by omega)
        refine ⟨v, Evt.succ h1 (fun k => ?_), Evt.succ h2 (fun k => ?_)⟩
        · simp only [saw_choose.l0, rdW_at l i hi, hr, Option.bind_some, hw]
          rw [if_pos (by omega), if_pos (by omega), if_pos (by omega), if_pos hr0, if_pos hm0]
        · simp only [gangsawref29_Choose.l0, rdW_at l i hi, able_f, hr, Option.bind_some, hw]
          rw [if_pos (by omega), if_pos (by omega), if_pos hr0, if_pos hm0]
      · obtain ⟨j, rfl⟩ : ∃ j : Nat, m = (j : Int) := ⟨m.toNat, by omega⟩
        have hj : j < l.length := by omega
        have hsj := hsp l[j] (List.getElem_mem _)
        by_cases hc : minuteV l[i] A < minuteV l[j] A
        · obtain ⟨v, h1, h2⟩ := ih i (by omega)
          refine ⟨v, Evt.succ h1 (fun k => ?_), Evt.succ h2 (fun k => ?_)⟩
          · simp only [saw_choose.l0, rdW_at l i hi, rdW_at l j hj, hr, hA, minutes_f _ A hsi, minutes_f _ A hsj, Option.bind_some, hw]
            rw [if_pos (by omega), if_pos (by omega), if_pos (by omega), if_pos hr0, if_neg hm0, if_pos (by omega), if_pos (by omega), if_pos hc]
          · simp only [gangsawref29_Choose.l0, rdW_at l i hi, rdW_at l j hj, able_f, area_f, hr, hA, rminutes_f _ A hsi, rminutes_f _ A hsj, Option.bind_some, hw]
            rw [if_pos (by omega), if_pos (by omega), if_pos hr0, if_neg hm0, if_pos (by omega), if_pos (by omega), if_pos hc]
        · obtain ⟨v, h1, h2⟩ := ih j (by omega)
          refine ⟨v, Evt.succ h1 (fun k => ?_), Evt.succ h2 (fun k => ?_)⟩
          · simp only [saw_choose.l0, rdW_at l i hi, rdW_at l j hj, hr, hA, minutes_f _ A hsi, minutes_f _ A hsj, Option.bind_some, hw]
            rw [if_pos (by omega), if_pos (by omega), if_pos (by omega), if_pos hr0, if_neg hm0, if_pos (by omega), if_pos (by omega), if_neg hc]
          · simp only [gangsawref29_Choose.l0, rdW_at l i hi, rdW_at l j hj, able_f, area_f, hr, hA, rminutes_f _ A hsi, rminutes_f _ A hsj, Option.bind_some, hw]
            rw [if_pos (by omega), if_pos (by omega), if_pos hr0, if_neg hm0, if_pos (by omega), if_pos (by omega), if_neg hc]
    · obtain ⟨v, h1, h2⟩ := ih m hm
      refine ⟨v, Evt.succ h1 (fun k => ?_), Evt.succ h2 (fun k => ?_)⟩
      · simp only [saw_choose.l0, rdW_at l i hi, hr, Option.bind_some, hw]
        rw [if_pos (by omega), if_pos (by omega), if_pos (by omega), if_neg hr0]
      · simp only [gangsawref29_Choose.l0, rdW_at l i hi, able_f, hr, Option.bind_some, hw]
        rw [if_pos (by omega), if_pos (by omega), if_neg hr0]
theorem SawChoices : ∀ (x0 : List (S37)) (x1 : S30) (x2 : Int) (x3 : Int), (GList G37) x0 → G30 x1 → (GInt .i64) x2 → (GInt .i64) x3 → ∃ k, gangsawlaw29_SawChoices.f k x0 x1.f0.f0 x1.f0.f1 x1.f0.f2 x1.f1.f0 x1.f1.f1 x1.f1.f2 x2 x3 = some true := by
  intro l w x k0 hg hw hx hk
  refine Evt.exists_ (f := fun k => gangsawlaw29_SawChoices.f k l w.f0.f0 w.f0.f1 w.f0.f2 w.f1.f0 w.f1.f1 w.f1.f2 x k0) ?_
  generalize w.f0.f0 = a
  generalize w.f0.f1 = b
  generalize w.f0.f2 = c
  generalize w.f1.f0 = d
  generalize w.f1.f1 = e
  generalize w.f1.f2 = f
  unfold gangsawlaw29_SawChoices.f
  refine Evt.bind0 (g := gangsawlaw29_awake.f) rfl ?_
  simp only [if_true]
  obtain ⟨bb, hb⟩ := few_ev l hg.1
  refine Evt.bind hb ?_
  cases bb with
  | false => exact Evt.pure _
  | true =>
  simp only [if_true]
  obtain ⟨v, h1, h2, h3⟩ := checks_ev l hg.1 (fun t ht => (hg.2 t ht).1)
  by_cases hv : v = 0
  · subst hv
    obtain ⟨hl, hc⟩ := h3 rfl
    have hsp : ∀ s ∈ l, 1 ≤ s.f5 := fun s hs => (badSz_false (checkS_zero hc hs).2).2.2.2.2.2.1
    by_cases hbx : boxOk a b c d e f x k0
    · obtain ⟨r, e1, e2⟩ := choose_loop l a b c d e f x k0 hl hbx.2.1 hsp 0 (by omega) (-1) (by omega)
      have hC : Evt (fun k => saw_Choose.f k l a b c d e f x k0) (if r < 0 then (0, 9) else (r, 0)) := by
        unfold saw_Choose.f
        refine Evt.bind h1 ?_
        simp only [if_true, cut_f, Option.bind_some, if_pos hbx]
        refine Evt.bind (g := fun k => saw_choose.f k l a b c d e f x k0) e1 ?_
        by_cases hr : r < 0
        · simp only [if_pos hr]; exact Evt.pure _
        · simp only [if_neg hr]; exact Evt.pure _
      refine Evt.bind hC (Evt.bind h2 ?_)
      simp only [if_true, rcut_f, Option.bind_some, if_pos hbx]
      refine Evt.succ (g := fun k => (gangsawref29_Choose.f k l a b c d e f x k0).bind fun t224 => (if t224 < 0 then (if (if r < 0 then ((0 : Int), (9 : Int)) else (r, 0)).2 = 9 then (some ((if r < 0 then ((0 : Int), (9 : Int)) else (r, 0)).1 == 0)) else (some false)) else (if (if r < 0 then ((0 : Int), (9 : Int)) else (r, 0)).2 = 0 then (some ((if r < 0 then ((0 : Int), (9 : Int)) else (r, 0)).1 == t224)) else (some false)))) ?_ (fun k => by simp only [gangsawlaw29_SawChoices.j0, if_true])
      refine Evt.bind (g := fun k => gangsawref29_Choose.f k l a b c d e f x k0) e2 ?_
      by_cases hr : r < 0
      · simp only [if_pos hr, if_true, beq_self_eq_true]; exact Evt.pure _
      · simp only [if_neg hr, if_true, beq_self_eq_true]; exact Evt.pure _
    · have hC : Evt (fun k => saw_Choose.f k l a b c d e f x k0) (0, 1) := by
        unfold saw_Choose.f
        refine Evt.bind h1 ?_
        simp only [if_true, cut_f, Option.bind_some, if_neg hbx]
        exact Evt.pure _
      refine Evt.bind hC (Evt.bind h2 ?_)
      simp only [if_true, rcut_f, Option.bind_some, if_neg hbx]
      exact Evt.succ (g := fun _ => some true) (Evt.pure _) (fun k => by simp only [gangsawlaw29_SawChoices.j0]; rw [if_neg (by decide), if_pos trivial]; rfl)
  · have hC : Evt (fun k => saw_Choose.f k l a b c d e f x k0) (0, v) := by
      unfold saw_Choose.f
      refine Evt.bind h1 ?_
      simp only [if_neg hv]
      exact Evt.pure _
    refine Evt.bind hC (Evt.bind h2 ?_)
    simp only [if_neg hv]
    exact Evt.succ (g := fun _ => some true) (Evt.pure _) (fun k => by simp only [gangsawlaw29_SawChoices.j0]; rw [if_neg hv, if_pos trivial]; rfl)
end Go.Proofs.Ytlbpdhjdlnhciaa.Pure
