/-
  SawChecks: the plain law.
-/
import Derived.Test.YtlbpdhjdlnhciaaPSaw
import Derived.Test.YtlbpdhjdlnhciaaPx5
set_option linter.unusedVariables false
set_option linter.unusedSimpArgs false
namespace Go.Proofs.Ytlbpdhjdlnhciaa.Pure
open Go.RowKit Go.Proofs.YtlbpdhjdlnhciaaW.PrintWords Go.Proofs.YtlbpdhjdlnhciaaW.PrintLast Go.Proofs.Ytlbpdhjdlnhciaa.Awk Go.Proofs.Ytlbpdhjdlnhciaa.P Go.Proofs.Ytlbpdhjdlnhciaa.Rnd Go.Proofs.Ytlbpdhjdlnhciaa.Open Go.Proofs.Ytlbpdhjdlnhciaa.Ks Go.Proofs.Ytlbpdhjdlnhciaa.PSaw
theorem SawChecks : ∀ (x0 : List (S37)), (GList G37) x0 → ∃ k, gangsawlaw29_SawChecks.f k x0 = some true := by
  intro l hg
  refine Evt.exists_ (f := fun k => gangsawlaw29_SawChecks.f k l) ?_
  unfold gangsawlaw29_SawChecks.f
  refine Evt.bind0 (g := gangsawlaw29_awake.f) rfl ?_
  simp only [if_true]
  obtain ⟨b, hb⟩ := few_ev l hg.1
  refine Evt.bind hb ?_
  cases b with
  | false => exact Evt.pure _
  | true =>
    obtain ⟨v, h1, h2, _⟩ := checks_ev l hg.1 (fun t ht => (hg.2 t ht).1)
    simp only [if_true]
    refine Evt.bind h1 (Evt.bind h2 ?_)
    exact Evt.const (fun k => by simp)
end Go.Proofs.Ytlbpdhjdlnhciaa.Pure
