/-
  SawCuts: the plain law.
-/
import Derived.Test.YtlbpdhjdlnhciaaPSaw
import Derived.Test.YtlbpdhjdlnhciaaPx7
set_option linter.unusedVariables false
set_option linter.unusedSimpArgs false
namespace Go.Proofs.Ytlbpdhjdlnhciaa.Pure
open Go.RowKit Go.Proofs.YtlbpdhjdlnhciaaW.PrintWords Go.Proofs.YtlbpdhjdlnhciaaW.PrintLast Go.Proofs.Ytlbpdhjdlnhciaa.Awk Go.Proofs.Ytlbpdhjdlnhciaa.P Go.Proofs.Ytlbpdhjdlnhciaa.Rnd Go.Proofs.Ytlbpdhjdlnhciaa.Open Go.Proofs.Ytlbpdhjdlnhciaa.Ks Go.Proofs.Ytlbpdhjdlnhciaa.PSaw Go.Proofs.Ytlbpdhjdlnhciaa.Sym
theorem cuts_j (a b c d e f x : Int) : Evt (fun k => gangsawlaw29_SawCuts.j0 k x false a b c d e f) true := by
  refine Evt.succ (g := fun _ => some true) (Evt.pure _) (fun k => ?_)
  simp only [gangsawlaw29_SawCuts.j0, saw_Area.f, boxed_f, rcut_f, area_f, Option.bind_some, Bool.false_eq_true, if_false]
  by_cases h : boxOk a b c d e f x 0
  · obtain ⟨v, hv⟩ := area_some a b c d e f x h.2.1
    simp only [if_pos h, hv, Option.bind_some, if_true, beq_self_eq_true]
  · simp only [if_neg h, show ¬ ((1 : Int) = 0) by decide, if_false, Option.bind_some, if_true, beq_self_eq_true]
theorem SawCuts : ∀ (x0 : S37) (x1 : S30) (x2 : Int) (x3 : Int) (x4 : Int), G37 x0 → G30 x1 → (GInt .i64) x2 → (GInt .i64) x3 → (GInt .i64) x4 → ∃ k, gangsawlaw29_SawCuts.f k x0.f0 x0.f1 x0.f2.f0 x0.f2.f1 x0.f2.f2 x0.f3 x0.f4 x0.f5 x1.f0.f0 x1.f0.f1 x1.f0.f2 x1.f1.f0 x1.f1.f1 x1.f1.f2 x2 x3 x4 = some true := by
  intro s w x k0 a hs hw hx hk ha
  refine Evt.exists_ (f := fun k => gangsawlaw29_SawCuts.f k s.f0 s.f1 s.f2.f0 s.f2.f1 s.f2.f2 s.f3 s.f4 s.f5 w.f0.f0 w.f0.f1 w.f0.f2 w.f1.f0 w.f1.f1 w.f1.f2 x k0 a) ?_
  unfold gangsawlaw29_SawCuts.f
  refine Evt.bind0 (g := gangsawlaw29_awake.f) rfl ?_
  simp only [if_true]
  obtain ⟨b, hb⟩ := few_ev [s] (by simp)
  refine Evt.bind hb ?_
  cases b with
  | false => exact Evt.pure _
  | true =>
    simp only [if_true]
    obtain ⟨v, h1, h2⟩ := Cans_ev s w.f0.f0 w.f0.f1 w.f0.f2 w.f1.f0 w.f1.f1 w.f1.f2 x k0 hs.1
    refine Evt.bind0 (Minutes_f s a) (Evt.bind (Minutes_ev s a hs.1) (Evt.bind0 h1 (Evt.bind h2 ?_)))
    simp only [if_true, bne_self_eq_false]
    exact cuts_j _ _ _ _ _ _ _
end Go.Proofs.Ytlbpdhjdlnhciaa.Pure
