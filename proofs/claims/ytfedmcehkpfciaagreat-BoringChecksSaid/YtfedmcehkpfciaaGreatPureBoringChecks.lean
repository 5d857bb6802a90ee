/-
  BoringChecks: the plain law.
-/
import Derived.Test.YtfedmcehkpfciaaGreatKs
import Derived.Test.YtfedmcehkpfciaaGreatPChecks
import Derived.Test.YtfedmcehkpfciaaGreatPx31
set_option linter.unusedVariables false
set_option linter.unusedSimpArgs false
namespace Go.Proofs.YtfedmcehkpfciaaGreat.Pure
open Go.RowKit Go.Proofs.YtfedmcehkpfciaaGreatW.PrintWords Go.Proofs.YtfedmcehkpfciaaGreatW.PrintLast Go.Proofs.YtfedmcehkpfciaaGreat.P Go.Proofs.YtfedmcehkpfciaaGreat.Open Go.Proofs.YtfedmcehkpfciaaGreat.Ks Go.Proofs.YtfedmcehkpfciaaGreat.Rnd Go.Proofs.YtfedmcehkpfciaaGreat.Awk Go.Proofs.YtfedmcehkpfciaaGreat.PBoring Go.Proofs.YtfedmcehkpfciaaGreat.PChecks
def smallB (x : Bg) : Bool := decide ((x.f2.length : Int) ≤ 70) && decide ((x.f0.size : Int) ≤ 100)
theorem small_f (x : Bg) : gangsawref14_Small.f x.f0 x.f1.f0 x.f1.f1 x.f2 = some (smallB x) := by
  unfold gangsawref14_Small.f smallB
  by_cases h : (x.f2.length : Int) ≤ 70
  · rw [if_pos h, decide_eq_true h]; rfl
  · rw [if_neg h, decide_eq_false h]; rfl
theorem checks_l1 (l : List Bg) (p0 p1 p2 p3 p4 p5 : Int) (hll : l.length ≤ 100) (hs : ∀ x ∈ l, smallB x = true) : ∀ i, i ≤ l.length → Evt (fun k => gangsawlaw14_BoringChecks.l1 k l i p0 p1 p2 p3 p4 p5) true := by
  have hl : ∀ x ∈ l, x.f2.length ≤ 9223372036854775807 := fun x hx => by have := hs x hx; unfold smallB at this; simp at this; omega
  have hn : ∀ x ∈ l, x.f0.size ≤ 9223372036854775807 := fun x hx => by have := hs x hx; unfold smallB at this; simp at this; omega
  have fin : ∀ i : Int, Evt (fun k => gangsawlaw14_BoringChecks.j3 k l i false p0 p1 p2 p3 p4 p5) true := fun i => by
    refine Evt.succ (g := fun k => (boring_CheckAll.f k l p0 p1 p2 p3 p4 p5).bind fun t => (gangsawref14_CheckAll.f k l p0 p1 p2 p3 p4 p5).bind fun u => some (t == u)) ?_ (fun k => by simp only [gangsawlaw14_BoringChecks.j3, Bool.false_eq_true, if_false])
    refine Evt.bind (checkAll_ev l p0 p1 p2 p3 p4 p5 (by omega) hl) ?_
    refine Evt.bind (rcheckAll_ev l p0 p1 p2 p3 p4 p5 (by omega) hl hn) ?_
    rw [beq_self_eq_true]
    exact Evt.pure _
  refine down ?_ ?_
  · exact Evt.succ (fin (l.length : Int)) (fun k => by simp only [gangsawlaw14_BoringChecks.l1, Int.lt_irrefl, if_false])
  · intro i hi ih
    have c1 : (i : Int) < (l.length : Int) := by omega
    have c2 : (0 : Int) ≤ (i : Int) := by omega
    by_cases h8 : (i : Int) < 8
    · refine Evt.succ (g := fun k => gangsawlaw14_BoringChecks.j3 k l i true p0 p1 p2 p3 p4 p5) ?_ (fun k => by simp only [gangsawlaw14_BoringChecks.l1, if_pos c1, decide_eq_true h8])
      have hx := List.getElem_mem hi
      have e := check_f l[i] p0 p1 p2 p3 p4 p5 (hl _ hx)
      refine Evt.succ (g := fun k => (gangsawref14_Check.f k l[i].f0 l[i].f1.f0 l[i].f1.f1 l[i].f2 p0 p1 p2 p3 p4 p5).bind fun u => if chkV l[i] p0 p1 p2 p3 p4 p5 = u then gangsawlaw14_BoringChecks.l1 k l ((i + 1 : Nat) : Int) p0 p1 p2 p3 p4 p5 else some false) ?_ (fun k => by simp only [gangsawlaw14_BoringChecks.j3, if_true, if_pos c1, if_pos c2, rdB_at l i hi, e, Option.bind_some, wrap_up i l.length hi (by omega)])
      refine Evt.bind (rcheck_ev l[i] p0 p1 p2 p3 p4 p5 (hl _ hx) (hn _ hx)) ?_
      simp only [if_true]
      exact ih
    · exact Evt.succ (fin (i : Int)) (fun k => by simp only [gangsawlaw14_BoringChecks.l1, if_pos c1, decide_eq_false h8])
theorem checks_j0 (l : List Bg) (p0 p1 p2 p3 p4 p5 : Int) (hll : l.length ≤ 100) : Evt (fun k => gangsawlaw14_BoringChecks.j0 k l false p0 p1 p2 p3 p4 p5) true := by
  refine Evt.succ (g := fun k => gangsawlaw14_BoringChecks.l0 k l 0 p0 p1 p2 p3 p4 p5) ?_ (fun k => by simp only [gangsawlaw14_BoringChecks.j0, Bool.false_eq_true, if_false])
  have bad : ∀ i (h : i < l.length), (!smallB l[i]) = true → Evt (fun k => gangsawlaw14_BoringChecks.l0 k l i p0 p1 p2 p3 p4 p5) true := fun i hi hb => by
    have c1 : (i : Int) < (l.length : Int) := by omega
    have c2 : (0 : Int) ≤ (i : Int) := by omega
    have e : smallB l[i] = false := by simpa using hb
    exact Evt.succ (g := fun _ => some true) (Evt.pure _) (fun k => by simp only [gangsawlaw14_BoringChecks.l0, if_pos c1, if_pos c2, rdB_at l i hi, small_f, e, Option.bind_some, Bool.false_eq_true, if_false])
  have good : ∀ i (h : i < l.length), (!smallB l[i]) = false → ∀ v, Evt (fun k => gangsawlaw14_BoringChecks.l0 k l ((i + 1 : Nat) : Int) p0 p1 p2 p3 p4 p5) v → Evt (fun k => gangsawlaw14_BoringChecks.l0 k l i p0 p1 p2 p3 p4 p5) v := fun i hi hb v hv => by
    have c1 : (i : Int) < (l.length : Int) := by omega
    have c2 : (0 : Int) ≤ (i : Int) := by omega
    have e : smallB l[i] = true := by simpa using hb
    exact Evt.succ hv (fun k => by simp only [gangsawlaw14_BoringChecks.l0, if_pos c1, if_pos c2, rdB_at l i hi, small_f, e, Option.bind_some, if_true, wrap_up i l.length hi (by omega)])
  cases ha : l.any (fun x => !smallB x) with
  | true => exact Evt.any_bad (F := fun k i => gangsawlaw14_BoringChecks.l0 k l i p0 p1 p2 p3 p4 p5) _ true ha bad good
  | false =>
    have hs : ∀ x ∈ l, smallB x = true := fun x hx => by
      have := List.any_eq_false.1 ha x hx
      simpa using this
    have h := Evt.any_list (F := fun k i => gangsawlaw14_BoringChecks.l0 k l i p0 p1 p2 p3 p4 p5) (l := l) (fun x => !smallB x) true (V := true) ?_ bad good
    · rw [ha, if_neg (by simp)] at h
      exact h
    · exact Evt.succ (checks_l1 l p0 p1 p2 p3 p4 p5 hll hs 0 (by omega)) (fun k => by simp only [gangsawlaw14_BoringChecks.l0, Int.lt_irrefl, if_false]; rfl)
theorem BoringChecks : ∀ (x0 : List (S33)) (x1 : S26), (GList G33) x0 → G26 x1 → ∃ k, gangsawlaw14_BoringChecks.f k x0 x1.f0.f0 x1.f0.f1 x1.f0.f2 x1.f1.f0 x1.f1.f1 x1.f1.f2 = some true := by
  intro l x hg hx
  refine Evt.exists_ (f := fun k => gangsawlaw14_BoringChecks.f k l x.f0.f0 x.f0.f1 x.f0.f2 x.f1.f0 x.f1.f1 x.f1.f2) ?_
  unfold gangsawlaw14_BoringChecks.f
  refine Evt.bind0 (g := gangsawlaw14_awake.f) rfl ?_
  simp only [if_true]
  have yes : Evt (fun k => gangsawlaw14_BoringChecks.j0 k l true x.f0.f0 x.f0.f1 x.f0.f2 x.f1.f0 x.f1.f1 x.f1.f2) true := Evt.succ (g := fun _ => some true) (Evt.pure _) (fun k => by simp only [gangsawlaw14_BoringChecks.j0, if_true])
  have many : Evt (fun k => gangsawlaw14_BoringChecks.j0 k l (decide ((l.length : Int) > 100)) x.f0.f0 x.f0.f1 x.f0.f2 x.f1.f0 x.f1.f1 x.f1.f2) true := by
    by_cases h : (l.length : Int) > 100
    · rw [decide_eq_true h]; exact yes
    · rw [decide_eq_false h]; exact checks_j0 l _ _ _ _ _ _ (by omega)
  by_cases h8 : (l.length : Int) > 8
  · simp only [if_pos h8]
    by_cases h64 : (l.length : Int) ≤ 64
    · simp only [if_pos h64]; exact yes
    · simp only [if_neg h64]; exact many
  · simp only [if_neg h8]; exact many
end Go.Proofs.YtfedmcehkpfciaaGreat.Pure
