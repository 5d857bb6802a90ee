/-
  What machine.CheckJobs and machine.Load yield, in plain terms.
-/
import Derived.Test.YtpfggghpkdnppaaPMach
import Derived.Test.YtpfggghpkdnppaaPx7
set_option linter.unusedVariables false
set_option linter.unusedSimpArgs false
namespace Go.Proofs.Ytpfggghpkdnppaa.PEach
open Go.RowKit Go.Proofs.YtpfggghpkdnppaaW.PrintWords Go.Proofs.Ytpfggghpkdnppaa.P Go.Proofs.Ytpfggghpkdnppaa.Rnd Go.Proofs.Ytpfggghpkdnppaa.Lex Go.Proofs.Ytpfggghpkdnppaa.PName Go.Proofs.Ytpfggghpkdnppaa.Open Go.Proofs.Ytpfggghpkdnppaa.Ks Go.Proofs.Ytpfggghpkdnppaa.Hof Go.Proofs.Ytpfggghpkdnppaa.PMach Go.Proofs.Ytpfggghpkdnppaa.Sm

def stepB (s : S36) : Bool := inB s.f1 1 100000 && inB s.f2 0 100000
theorem timed_f (s : S36) : machine_timed.f s.f0 s.f1 s.f2 = some (stepB s) := by
  unfold machine_timed.f stepB; simp only [in_f, Option.bind_some]; grind
def longJ (j : S47) : Bool := decide (16 < j.f1.length)
def noneJ (j : S47) : Bool := decide (j.f1.length = 0)
def unnamedJ (j : S47) : Bool := !nameB j.f0 || j.f1.any fun s => !nameB s.f0
def rangeJ (j : S47) : Bool := (j.f1.any fun s => !stepB s) || !inB j.f2 0 10000000 || !inB j.f3 0 10000000 || !inB j.f4 0 100
def adjJ (l : List S47) (i : Nat) : Bool := !lessB (l.getD (i - 1) z47).f0 (l.getD i z47).f0
def sortedJ (l : List S47) : Bool := !(List.range' 1 (l.length - 1)).any (adjJ l)
def unknownS (l : List S34) (s : S36) : Bool := decide ((whoV l s.f0 0).length = 0)
def eachV (l : List S34) (js : List S47) (sorted : Bool) : Int :=
  if js.any longJ then 7 else if js.any noneJ then 1 else if js.any unnamedJ then 4 else if js.any rangeJ then 6 else if sorted && !sortedJ js then 5 else if js.any (fun j => j.f1.any (unknownS l)) then 3 else 0
def checkJobsV (l : List S34) (js : List S47) : Int := if checkV l = 0 then (if 128 < js.length then 7 else eachV l js true) else checkV l
theorem e5 (j : S47) : machine_each_5.f j.f0 j.f1 j.f2 j.f3 j.f4 = some (longJ j) := by
  unfold machine_each_5.f longJ
  have : decide ((j.f1.length : Int) > 16) = decide (16 < j.f1.length) := decide_eq_decide.2 (by omega)
  rw [this]
theorem e6 (j : S47) : machine_each_6.f j.f0 j.f1 j.f2 j.f3 j.f4 = some (noneJ j) := by
  unfold machine_each_6.f noneJ
  have : ((j.f1.length : Int) == 0) = decide (j.f1.length = 0) := by
    rw [Bool.eq_iff_iff, beq_iff_eq, decide_eq_true_eq]; omega
  rw [this]
theorem e21 (q : S36 → Bool) (j : S47) : machine_each_2_1.f j.f0 j.f1 j.f2 j.f3 j.f4 (fun s => some (q s)) = some (j.f1.any q) := by
  unfold machine_each_2_1.f contains36.f; rw [anyO_some]; rfl
theorem e1 (q : S47 → Bool) (js : List S47) : machine_each_1.f (fun j => some (q j)) js = some (js.any q) := by
  unfold machine_each_1.f contains47.f; rw [anyO_some]; rfl
theorem e3 : (fun x_ : S36 => machine_each_3.f x_.f0 x_.f1 x_.f2) = fun s => some (!nameB s.f0) := by
  funext s; unfold machine_each_3.f; rw [name_f]; rfl
theorem e4 : (fun x_ : S36 => machine_each_4.f x_.f0 x_.f1 x_.f2) = fun s => some (!stepB s) := by
  funext s; unfold machine_each_4.f; rw [timed_f]; rfl
theorem e9 (l : List S34) (hl : l.length ≤ 1000000) : (fun x_ : S36 => machine_each_9.f x_.f0 x_.f1 x_.f2 l) = fun s => some (unknownS l s) := by
  funext s; unfold machine_each_9.f unknownS; rw [can_f l s.f0 hl, Option.bind_some]
  congr 1
  rw [Bool.eq_iff_iff, beq_iff_eq, decide_eq_true_eq]; omega
theorem e7 (j : S47) : machine_each_7.f j.f0 j.f1 j.f2 j.f3 j.f4 (fun x_ => machine_each_2_1.f x_.f0 x_.f1 x_.f2 x_.f3 x_.f4 fun s => some (!nameB s.f0)) = some (unnamedJ j) := by
  have e := e21 (fun s => !nameB s.f0) j
  unfold machine_each_7.f unnamedJ; simp only [name_f, e, Option.bind_some]; cases nameB j.f0 <;> simp
theorem e8 (j : S47) : machine_each_8.f j.f0 j.f1 j.f2 j.f3 j.f4 (fun x_ => machine_each_2_1.f x_.f0 x_.f1 x_.f2 x_.f3 x_.f4 fun s => some (!stepB s)) = some (rangeJ j) := by
  have e := e21 (fun s => !stepB s) j
  unfold machine_each_8.f rangeJ
  simp only [e, in_f, Option.bind_some]
  cases (j.f1.any fun s => !stepB s) <;> cases inB j.f2 0 10000000 <;> cases inB j.f3 0 10000000 <;> cases inB j.f4 0 100 <;> rfl
theorem each_last (l : List S34) (js : List S47) (hl : l.length ≤ 1000000) (k : Nat) (b : Bool) (i : Int) : machine_each.j1 (k + 1) b i false l js = some (if js.any (fun j => j.f1.any (unknownS l)) then 3 else 0) := by
  simp only [machine_each.j1, Bool.false_eq_true, if_false, machine_each_2.f, Option.bind_some, e9 l hl]
  rw [show (fun x_ : S47 => machine_each_2_1.f x_.f0 x_.f1 x_.f2 x_.f3 x_.f4 fun s => some (unknownS l s)) = fun j => some (j.f1.any (unknownS l)) from funext (fun j => e21 _ j), e1]
  cases js.any (fun j => j.f1.any (unknownS l)) <;> rfl
theorem each_sorted (l : List S34) (js : List S47) (hl : l.length ≤ 1000000) (hj : js.length ≤ 9223372036854775807) (b : Bool) :
    Evt (fun k => machine_each.l0 k b 1 l js) (if b && !sortedJ js then 5 else if js.any (fun j => j.f1.any (unknownS l)) then 3 else 0) := by
  have hlast : ∀ i, Evt (fun k => machine_each.j1 k b i false l js) (if js.any (fun j => j.f1.any (unknownS l)) then 3 else 0) := fun i => Evt.succ (g := fun _ => some _) (Evt.pure _) (fun k => each_last l js hl k b i)
  cases b with
  | false =>
    rw [Bool.false_and]
    refine Evt.succ (hlast 1) (fun k => ?_)
    simp only [machine_each.l0]
    split <;> rfl
  | true =>
    rw [Bool.true_and]
    have e : (if (!sortedJ js) = true then (5 : Int) else if js.any (fun j => j.f1.any (unknownS l)) then 3 else 0) = (if (List.range' 1 (js.length - 1)).any (adjJ js) then 5 else if js.any (fun j => j.f1.any (unknownS l)) then 3 else 0) := by
      unfold sortedJ; cases (List.range' 1 (js.length - 1)).any (adjJ js) <;> rfl
    rw [e]
    have hend : ∀ i : Int, (js.length : Int) ≤ i → Evt (fun k => machine_each.l0 k true i l js) (if js.any (fun j => j.f1.any (unknownS l)) then 3 else 0) := fun i hi =>
      Evt.succ (hlast i) (fun k => by simp only [machine_each.l0]; rw [if_neg (by omega)])
    by_cases hn : js.length = 0
    · have : (List.range' 1 (js.length - 1)).any (adjJ js) = false := by simp [hn]
      rw [this]
      exact hend 1 (by omega)
    · have key : ∀ i, i ≤ js.length → 1 ≤ i → Evt (fun k => machine_each.l0 k true (i : Nat) l js) (if (List.range' i (js.length - i)).any (adjJ js) then 5 else if js.any (fun j => j.f1.any (unknownS l)) then 3 else 0) := by
        refine down ?_ ?_
        · intro _; simp only [Nat.sub_self, List.range'_zero, List.any_nil, Bool.false_eq_true, if_false]; exact hend _ (Int.le_refl _)
        · intro i hi ih h1
          have e : js.length - i = (js.length - (i + 1)) + 1 := by omega
          rw [e, List.range'_succ, List.any_cons]
          refine Evt.succ (g := fun k => machine_each.j1 k true i true l js) ?_ (fun k => by simp only [machine_each.l0]; rw [if_pos (by omega)])
          cases hb : adjJ js i with
          | true =>
            rw [Bool.true_or, if_pos rfl]
            refine Evt.succ (g := fun _ => some 5) (Evt.pure _) (fun k => ?_)
            simp only [machine_each.j1, if_true, wrap_prev i h1 (by omega), rd47_at js i hi, rd47_at js (i - 1) (by omega)]
            have hb' : lessB js[i - 1].f0 js[i].f0 = false := by
              unfold adjJ at hb
              rw [getD_nat _ _ _ hi, getD_nat _ _ _ (show i - 1 < js.length by omega)] at hb
              simpa using hb
            unfold lessB at hb'
            rw [if_pos (by omega), if_pos (by omega), if_pos (by omega), if_pos (by omega), hb']; rfl
          | false =>
            rw [Bool.false_or]
            refine Evt.succ (ih (by omega)) (fun k => ?_)
            simp only [machine_each.j1, if_true, wrap_prev i h1 (by omega), rd47_at js i hi, rd47_at js (i - 1) (by omega)]
            have hb' : lessB js[i - 1].f0 js[i].f0 = true := by
              unfold adjJ at hb
              rw [getD_nat _ _ _ hi, getD_nat _ _ _ (show i - 1 < js.length by omega)] at hb
              simpa using hb
            unfold lessB at hb'
            rw [if_pos (by omega), if_pos (by omega), if_pos (by omega), if_pos (by omega), hb', if_pos rfl, wrap_up i js.length hi hj]
      exact key 1 (by omega) (Nat.le_refl _)
theorem each_ev (l : List S34) (js : List S47) (hl : l.length ≤ 1000000) (hj : js.length ≤ 9223372036854775807) (b : Bool) : Evt (fun k => machine_each.f k l js b) (eachV l js b) := by
  unfold machine_each.f eachV
  simp only [machine_each_2.f, Option.bind_some, e3, e4, e5, e6, e7, e8, e1]
  cases js.any longJ with
  | true => exact Evt.pure _
  | false =>
    simp only [Bool.false_eq_true, if_false]
    cases js.any noneJ with
    | true => exact Evt.pure _
    | false =>
      simp only [Bool.false_eq_true, if_false]
      cases js.any unnamedJ with
      | true => exact Evt.pure _
      | false =>
        simp only [Bool.false_eq_true, if_false]
        cases js.any rangeJ with
        | true => exact Evt.pure _
        | false => exact each_sorted l js hl hj b
theorem checkV_len {l : List S34} (h : checkV l = 0) : l.length ≤ 32 := by
  unfold checkV at h
  by_cases c : l.length > 32
  · rw [if_pos c] at h; omega
  · omega
theorem checkJobs_ev (l : List S34) (js : List S47) (hl : l.length ≤ 9223372036854775807) (hj : js.length ≤ 9223372036854775807) : Evt (fun k => machine_CheckJobs.f k l js) (checkJobsV l js) := by
  unfold machine_CheckJobs.f checkJobsV
  refine Evt.bind (check_ev l hl) ?_
  by_cases c : checkV l = 0
  · simp only [if_pos c]
    by_cases c2 : 128 < js.length
    · simp only [if_pos c2]; exact Evt.const (fun k => by rw [if_pos (by omega)])
    · simp only [if_neg c2]
      refine Evt.of_eq (g := fun k => (machine_each.f k l js true).bind fun t => some t) (Evt.bind (each_ev l js (by have := checkV_len c; omega) hj true) (Evt.pure _)) (fun k => by rw [if_neg (by omega)])
  · simp only [if_neg c]; exact Evt.pure _

end Go.Proofs.Ytpfggghpkdnppaa.PEach
