/-
  MachineMinutes: the plain law.
-/
import Derived.Test.YtpfggghpkdnppaaPName
import Derived.Test.YtpfggghpkdnppaaKs
import Derived.Test.YtpfggghpkdnppaaPx15
set_option linter.unusedVariables false
set_option linter.unusedSimpArgs false
namespace Go.Proofs.Ytpfggghpkdnppaa.PMinutes
open Go.RowKit Go.Proofs.YtpfggghpkdnppaaW.PrintWords Go.Proofs.Ytpfggghpkdnppaa.P Go.Proofs.Ytpfggghpkdnppaa.Rnd Go.Proofs.Ytpfggghpkdnppaa.Lex Go.Proofs.Ytpfggghpkdnppaa.PName Go.Proofs.Ytpfggghpkdnppaa.Open Go.Proofs.Ytpfggghpkdnppaa.Ks

def inB (n lo hi : Int) : Bool := decide (lo ≤ n) && decide (n ≤ hi)
theorem in_f (n lo hi : Int) : machine_in.f n lo hi = some (inB n lo hi) := by unfold machine_in.f inB; grind
theorem inr_f (n lo hi : Int) : gangsawref49_in.f n lo hi = some (inB n lo hi) := by unfold gangsawref49_in.f inB; grind
def stepB (a b : Int) : Bool := inB a 1 100000 && inB b 0 100000
theorem timed_f (w : ByteArray) (a b : Int) : machine_timed.f w a b = some (stepB a b) := by
  unfold machine_timed.f stepB; simp only [in_f, Option.bind_some]; grind
theorem step_f (w : ByteArray) (a b : Int) : gangsawref49_step.f w a b = some (stepB a b) := by
  unfold gangsawref49_step.f stepB; simp only [inr_f, Option.bind_some]; grind
def minutesV (m0 m1 : ByteArray) (m2 : Int) (s0 : ByteArray) (s1 s2 : Int) (fresh : Bool) : Int × Int :=
  if !nameB m0 || !nameB m1 || !nameB s0 then (0, 4) else if !inB m2 0 100000 || !stepB s1 s2 then (0, 6) else if m1.toList = s0.toList then (if fresh then (wrap64 (m2 + s1), 0) else (s1, 0)) else (0, 10)
theorem name_f (s : ByteArray) : lexer_Name.f s = some (nameB s) := rfl
theorem minutes_j1 (fresh b : Bool) (m0 m1 : ByteArray) (m2 : Int) (s0 : ByteArray) (s1 s2 : Int) : Evt (fun k => machine_Minutes.j1 k fresh b m0 m1 m2 s0 s1 s2) (if b then (0, 6) else if m1.toList = s0.toList then (if fresh then (wrap64 (m2 + s1), 0) else (s1, 0)) else (0, 10)) :=
  Evt.succ (g := fun _ => some _) (Evt.pure _) (fun k => by simp only [machine_Minutes.j1]; grind)
theorem minutes_j0 (fresh b : Bool) (m0 m1 : ByteArray) (m2 : Int) (s0 : ByteArray) (s1 s2 : Int) : Evt (fun k => machine_Minutes.j0 k fresh b m0 m1 m2 s0 s1 s2) (if b then (0, 4) else if !inB m2 0 100000 || !stepB s1 s2 then (0, 6) else if m1.toList = s0.toList then (if fresh then (wrap64 (m2 + s1), 0) else (s1, 0)) else (0, 10)) := by
  cases b with
  | true => exact Evt.succ (g := fun _ => some _) (Evt.pure _) (fun k => by simp only [machine_Minutes.j0]; simp)
  | false =>
    cases hi : inB m2 0 100000 with
    | false => refine Evt.succ (minutes_j1 fresh true m0 m1 m2 s0 s1 s2) (fun k => by simp only [machine_Minutes.j0, in_f, hi]; simp)
    | true => refine Evt.succ (minutes_j1 fresh (!stepB s1 s2) m0 m1 m2 s0 s1 s2) (fun k => by simp only [machine_Minutes.j0, in_f, timed_f, hi]; simp)
theorem minutes_ev (m0 m1 : ByteArray) (m2 : Int) (s0 : ByteArray) (s1 s2 : Int) (fresh : Bool) : Evt (fun k => machine_Minutes.f k m0 m1 m2 s0 s1 s2 fresh) (minutesV m0 m1 m2 s0 s1 s2 fresh) := by
  unfold minutesV
  cases h0 : nameB m0 with
  | false => exact Evt.of_eq (minutes_j0 fresh true m0 m1 m2 s0 s1 s2) (fun k => by simp [machine_Minutes.f, name_f, h0])
  | true =>
    cases h1 : nameB m1 with
    | false => exact Evt.of_eq (minutes_j0 fresh true m0 m1 m2 s0 s1 s2) (fun k => by simp [machine_Minutes.f, name_f, h0, h1])
    | true => exact Evt.of_eq (minutes_j0 fresh (!nameB s0) m0 m1 m2 s0 s1 s2) (fun k => by simp [machine_Minutes.f, name_f, h0, h1])
theorem rminutes_j1 (fresh b : Bool) (m0 m1 : ByteArray) (m2 : Int) (s0 : ByteArray) (s1 s2 : Int) : Evt (fun k => gangsawref49_Minutes.j1 k fresh b m0 m1 m2 s0 s1 s2) (if b then (0, 6) else if m1.toList = s0.toList then (if fresh then (wrap64 (m2 + s1), 0) else (s1, 0)) else (0, 10)) :=
  Evt.succ (g := fun _ => some _) (Evt.pure _) (fun k => by simp only [gangsawref49_Minutes.j1]; grind)
theorem rminutes_j0 (fresh b : Bool) (m0 m1 : ByteArray) (m2 : Int) (s0 : ByteArray) (s1 s2 : Int) : Evt (fun k => gangsawref49_Minutes.j0 k fresh b m0 m1 m2 s0 s1 s2) (if b then (0, 4) else if !inB m2 0 100000 || !stepB s1 s2 then (0, 6) else if m1.toList = s0.toList then (if fresh then (wrap64 (m2 + s1), 0) else (s1, 0)) else (0, 10)) := by
  cases b with
  | true => exact Evt.succ (g := fun _ => some _) (Evt.pure _) (fun k => by simp only [gangsawref49_Minutes.j0]; simp)
  | false =>
    cases hi : inB m2 0 100000 with
    | false => refine Evt.succ (rminutes_j1 fresh true m0 m1 m2 s0 s1 s2) (fun k => by simp only [gangsawref49_Minutes.j0, inr_f, hi]; simp)
    | true => refine Evt.succ (rminutes_j1 fresh (!stepB s1 s2) m0 m1 m2 s0 s1 s2) (fun k => by simp only [gangsawref49_Minutes.j0, inr_f, step_f, hi]; simp)
theorem rminutes_ev (m0 m1 : ByteArray) (m2 : Int) (s0 : ByteArray) (s1 s2 : Int) (fresh : Bool) (g0 : GStr m0) (g1 : GStr m1) (g2 : GStr s0) : Evt (fun k => gangsawref49_Minutes.f k m0 m1 m2 s0 s1 s2 fresh) (minutesV m0 m1 m2 s0 s1 s2 fresh) := by
  unfold gangsawref49_Minutes.f
  refine Evt.bind (name_ev m0 g0) ?_
  unfold minutesV
  cases h0 : nameB m0 with
  | false => exact Evt.of_eq (rminutes_j0 fresh true m0 m1 m2 s0 s1 s2) (fun k => by simp)
  | true =>
    refine Evt.of_eq (g := fun k => (gangsawref09_Name.f k m1).bind _) (Evt.bind (name_ev m1 g1) ?_) (fun k => by rw [if_pos rfl])
    cases h1 : nameB m1 with
    | false => exact Evt.of_eq (rminutes_j0 fresh true m0 m1 m2 s0 s1 s2) (fun k => by simp)
    | true =>
      refine Evt.of_eq (g := fun k => (gangsawref09_Name.f k s0).bind _) (Evt.bind (name_ev s0 g2) ?_) (fun k => by rw [if_pos rfl])
      exact Evt.of_eq (rminutes_j0 fresh (!nameB s0) m0 m1 m2 s0 s1 s2) (fun k => by simp)
theorem fresh_ge (m0 m1 : ByteArray) (m2 : Int) (s0 : ByteArray) (s1 s2 : Int) : (minutesV m0 m1 m2 s0 s1 s2 true).1 ≥ (minutesV m0 m1 m2 s0 s1 s2 false).1 := by
  unfold minutesV
  by_cases h : (!nameB m0 || !nameB m1 || !nameB s0) = true
  · rw [if_pos h, if_pos h]; exact Int.le_refl _
  rw [if_neg h, if_neg h]
  by_cases h2 : (!inB m2 0 100000 || !stepB s1 s2) = true
  · rw [if_pos h2, if_pos h2]; exact Int.le_refl _
  rw [if_neg h2, if_neg h2]
  by_cases h3 : m1.toList = s0.toList
  · rw [if_pos h3, if_pos h3]
    simp [inB, stepB] at h2
    simp only [if_true, Bool.false_eq_true, if_false]
    rw [wrap_mid _ (by omega) (by omega)]
    omega
  · rw [if_neg h3, if_neg h3]; exact Int.le_refl _
end Go.Proofs.Ytpfggghpkdnppaa.PMinutes
namespace Go.Proofs.Ytpfggghpkdnppaa.Pure
open Go.RowKit Go.Proofs.YtpfggghpkdnppaaW.PrintWords Go.Proofs.Ytpfggghpkdnppaa.P Go.Proofs.Ytpfggghpkdnppaa.Rnd Go.Proofs.Ytpfggghpkdnppaa.Lex Go.Proofs.Ytpfggghpkdnppaa.PName Go.Proofs.Ytpfggghpkdnppaa.Open Go.Proofs.Ytpfggghpkdnppaa.Ks Go.Proofs.Ytpfggghpkdnppaa.PMinutes
theorem MachineMinutes : ∀ (x0 : S34) (x1 : S36), G34 x0 → G36 x1 → ∃ k, gangsawlaw49_MachineMinutes.f k x0.f0 x0.f1 x0.f2 x1.f0 x1.f1 x1.f2 = some true := by
  rintro ⟨m0, m1, m2⟩ ⟨s0, s1, s2⟩ ⟨g0, g1, _⟩ ⟨g2, _, _⟩
  refine Evt.exists_ (f := fun k => gangsawlaw49_MachineMinutes.f k m0 m1 m2 s0 s1 s2) ?_
  unfold gangsawlaw49_MachineMinutes.f
  have hj : ∀ b, Evt (fun k => gangsawlaw49_MachineMinutes.j0 k b m0 m1 m2 s0 s1 s2) true := by
    intro b
    cases b with
    | true => exact Evt.succ (g := fun _ => some true) (Evt.pure _) (fun k => by simp only [gangsawlaw49_MachineMinutes.j0]; simp)
    | false =>
      refine Evt.succ (f := fun k => gangsawlaw49_MachineMinutes.j0 k false m0 m1 m2 s0 s1 s2) ?_ (fun k => by simp only [gangsawlaw49_MachineMinutes.j0, Bool.false_eq_true, if_false]; rfl)
      refine Evt.bind (minutes_ev m0 m1 m2 s0 s1 s2 true) ?_
      refine Evt.bind (minutes_ev m0 m1 m2 s0 s1 s2 false) ?_
      refine Evt.bind (rminutes_ev m0 m1 m2 s0 s1 s2 true g0 g1 g2) ?_
      refine Evt.bind (rminutes_ev m0 m1 m2 s0 s1 s2 false g0 g1 g2) ?_
      refine Evt.const (fun k => ?_)
      simp [fresh_ge]
  refine Evt.bind0 (g := gangsawlaw49_awake_N.f) rfl ?_
  refine Evt.of_eq (g := fun k => if (m0.size : Int) > 100 then _ else _) ?_ (fun k => by rw [if_pos rfl])
  refine Evt.ite (fun _ => hj _) (fun _ => Evt.ite (fun _ => hj _) (fun _ => hj _))
end Go.Proofs.Ytpfggghpkdnppaa.Pure
