/- What functions without slices return: the runner carries them out over symbols, path by path. -/
import Derived.Test.YtlbpdhjdlnhciaaRunC
import Derived.Test.YtlbpdhjdlnhciaaProg
import Derived.KernelRfl
import Derived.Test.YtlbpdhjdlnhciaaM1
set_option linter.unusedVariables false
set_option linter.unusedSimpArgs false
namespace Go.Proofs.Ytlbpdhjdlnhciaa.Sym
open Go.RowKit Go.Proofs.YtlbpdhjdlnhciaaW.PrintWords Go.Proofs.YtlbpdhjdlnhciaaW.PrintMore Go.Proofs.Ytlbpdhjdlnhciaa.Run Go.Proofs.Ytlbpdhjdlnhciaa.RunC 
def sort3.f (a0 : Int) (a1 : Int) (a2 : Int) : Int × Int × Int :=
  if a1 < a0 then (if a2 < a0 then (if a2 < a1 then ((a2, a1, a0)) else ((a1, a2, a0))) else ((a1, a0, a2))) else (if a2 < a1 then (if a2 < a0 then ((a2, a0, a1)) else ((a0, a2, a1))) else ((a0, a1, a2)))
noncomputable def sort3.run (r : RowM) : Bool := saysM (xcall Try.prog 0 10000 (orcOf r.1 r.2.1 r.2.2.1) 40 0 (.fn 56) [.slice (some ⟨0, 0, none⟩) 3 3] ⟨Tr.put .leaf 0 (.cells (ofL [sy 0, sy 1, sy 2]) 3 1), 1⟩) r.2.2.2
def sort3.r0 : RowM := ([], [(.bin .lss 3 3, [sy 2, sy 1], .bool true), (.bin .lss 3 3, [sy 2, sy 0], .bool true), (.bin .neq 3 3, [sy 2, sy 2], .bool false), (.bin .lss 3 3, [sy 1, sy 0], .bool true), (.bin .neq 3 3, [sy 1, sy 1], .bool false)], [], [sy 2, sy 1, sy 0])
set_option maxRecDepth 1000000 in
theorem sort3.x0 : sort3.run sort3.r0 = true := by kernel_rfl
def sort3.r1 : RowM := ([], [(.bin .lss 3 3, [sy 2, sy 1], .bool false), (.bin .lss 3 3, [sy 2, sy 0], .bool true), (.bin .neq 3 3, [sy 2, sy 2], .bool false), (.bin .lss 3 3, [sy 1, sy 0], .bool true), (.bin .neq 3 3, [sy 1, sy 1], .bool false)], [], [sy 1, sy 2, sy 0])
set_option maxRecDepth 1000000 in
theorem sort3.x1 : sort3.run sort3.r1 = true := by kernel_rfl
def sort3.r2 : RowM := ([], [(.bin .lss 3 3, [sy 2, sy 0], .bool false), (.bin .neq 3 3, [sy 2, sy 2], .bool false), (.bin .lss 3 3, [sy 1, sy 0], .bool true), (.bin .neq 3 3, [sy 1, sy 1], .bool false)], [], [sy 1, sy 0, sy 2])
set_option maxRecDepth 1000000 in
theorem sort3.x2 : sort3.run sort3.r2 = true := by kernel_rfl
def sort3.r3 : RowM := ([], [(.bin .lss 3 3, [sy 2, sy 0], .bool true), (.bin .lss 3 3, [sy 2, sy 1], .bool true), (.bin .neq 3 3, [sy 2, sy 2], .bool false), (.bin .lss 3 3, [sy 1, sy 0], .bool false), (.bin .neq 3 3, [sy 1, sy 1], .bool false)], [], [sy 2, sy 0, sy 1])
set_option maxRecDepth 1000000 in
theorem sort3.x3 : sort3.run sort3.r3 = true := by kernel_rfl
def sort3.r4 : RowM := ([], [(.bin .lss 3 3, [sy 2, sy 0], .bool false), (.bin .lss 3 3, [sy 2, sy 1], .bool true), (.bin .neq 3 3, [sy 2, sy 2], .bool false), (.bin .lss 3 3, [sy 1, sy 0], .bool false), (.bin .neq 3 3, [sy 1, sy 1], .bool false)], [], [sy 0, sy 2, sy 1])
set_option maxRecDepth 1000000 in
theorem sort3.x4 : sort3.run sort3.r4 = true := by kernel_rfl
def sort3.r5 : RowM := ([], [(.bin .lss 3 3, [sy 2, sy 1], .bool false), (.bin .neq 3 3, [sy 2, sy 2], .bool false), (.bin .lss 3 3, [sy 1, sy 0], .bool false), (.bin .neq 3 3, [sy 1, sy 1], .bool false)], [], [sy 0, sy 1, sy 2])
set_option maxRecDepth 1000000 in
theorem sort3.x5 : sort3.run sort3.r5 = true := by kernel_rfl
theorem sort3.mem (a0 : Int) (a1 : Int) (a2 : Int) : MemSem Try.prog 56 [.int .i64 a0, .int .i64 a1, .int .i64 a2] [.int .i64 (sort3.f a0 a1 a2).1, .int .i64 (sort3.f a0 a1 a2).2.1, .int .i64 (sort3.f a0 a1 a2).2.2] := by
  unfold sort3.f
  by_cases h1 : a1 < a0
  · simp only [if_pos h1]
    by_cases h2 : a2 < a0
    · simp only [if_pos h2]
      by_cases h3 : a2 < a1
      · simp only [if_pos h3]
        letI : Syms := symsOf [.int .i64 a0, .int .i64 a1, .int .i64 a2] rfl
        exact run_leafM (r := sort3.r0) follows noNum 3 sort3.x0 trivial ⟨ks_lss true (decide_eq_true h3), ks_lss true (decide_eq_true h2), ks_neq false (by simp), ks_lss true (decide_eq_true h1), ks_neq false (by simp), trivial⟩ trivial rfl rfl rfl rfl rfl
      · simp only [if_neg h3]
        letI : Syms := symsOf [.int .i64 a0, .int .i64 a1, .int .i64 a2] rfl
        exact run_leafM (r := sort3.r1) follows noNum 3 sort3.x1 trivial ⟨ks_lss false (decide_eq_false h3), ks_lss true (decide_eq_true h2), ks_neq false (by simp), ks_lss true (decide_eq_true h1), ks_neq false (by simp), trivial⟩ trivial rfl rfl rfl rfl rfl
    · simp only [if_neg h2]
      letI : Syms := symsOf [.int .i64 a0, .int .i64 a1, .int .i64 a2] rfl
      exact run_leafM (r := sort3.r2) follows noNum 3 sort3.x2 trivial ⟨ks_lss false (decide_eq_false h2), ks_neq false (by simp), ks_lss true (decide_eq_true h1), ks_neq false (by simp), trivial⟩ trivial rfl rfl rfl rfl rfl
  · simp only [if_neg h1]
    by_cases h2 : a2 < a1
    · simp only [if_pos h2]
      by_cases h3 : a2 < a0
      · simp only [if_pos h3]
        letI : Syms := symsOf [.int .i64 a0, .int .i64 a1, .int .i64 a2] rfl
        exact run_leafM (r := sort3.r3) follows noNum 3 sort3.x3 trivial ⟨ks_lss true (decide_eq_true h3), ks_lss true (decide_eq_true h2), ks_neq false (by simp), ks_lss false (decide_eq_false h1), ks_neq false (by simp), trivial⟩ trivial rfl rfl rfl rfl rfl
      · simp only [if_neg h3]
        letI : Syms := symsOf [.int .i64 a0, .int .i64 a1, .int .i64 a2] rfl
        exact run_leafM (r := sort3.r4) follows noNum 3 sort3.x4 trivial ⟨ks_lss false (decide_eq_false h3), ks_lss true (decide_eq_true h2), ks_neq false (by simp), ks_lss false (decide_eq_false h1), ks_neq false (by simp), trivial⟩ trivial rfl rfl rfl rfl rfl
    · simp only [if_neg h2]
      letI : Syms := symsOf [.int .i64 a0, .int .i64 a1, .int .i64 a2] rfl
      exact run_leafM (r := sort3.r5) follows noNum 3 sort3.x5 trivial ⟨ks_lss false (decide_eq_false h2), ks_neq false (by simp), ks_lss false (decide_eq_false h1), ks_neq false (by simp), trivial⟩ trivial rfl rfl rfl rfl rfl
def gangsawref29_sorted.f (a0_0 : Int) (a0_1 : Int) (a0_2 : Int) : Option (Int × Int × Int) :=
  if a0_0 > a0_1 then (if a0_0 > a0_2 then (if a0_1 > a0_2 then (if a0_1 > a0_0 then (some (a0_2, a0_0, a0_1)) else (some (a0_2, a0_1, a0_0))) else (if a0_2 > a0_0 then (some (a0_1, a0_0, a0_2)) else (some (a0_1, a0_2, a0_0)))) else (if a0_1 > a0_0 then (if a0_1 > a0_2 then (some (a0_0, a0_2, a0_1)) else (some (a0_0, a0_1, a0_2))) else (some (a0_1, a0_0, a0_2)))) else (if a0_1 > a0_2 then (if a0_0 > a0_2 then (some (a0_2, a0_0, a0_1)) else (if a0_2 > a0_1 then (some (a0_0, a0_1, a0_2)) else (some (a0_0, a0_2, a0_1)))) else (some (a0_0, a0_1, a0_2)))
noncomputable def gangsawref29_sorted.run (r : Row) : Bool := saysV (xcall Try.prog 0 10000 (orcOf r.1 r.2.1 r.2.2.1) 40 0 (.fn 53) [.agg ⟨[sy 0, sy 1, sy 2]⟩] ⟨.leaf, 0⟩) r.2.2.2
def gangsawref29_sorted.r1 : Row := ([], [(.bin .gtr 3 3, [sy 1, sy 0], .bool false), (.bin .gtr 3 3, [sy 1, sy 2], .bool true), (.bin .gtr 3 3, [sy 0, sy 2], .bool true), (.bin .gtr 3 3, [sy 0, sy 1], .bool true)], [], .agg ⟨[sy 2, sy 1, sy 0]⟩)
def gangsawref29_sorted.r2 : Row := ([], [(.bin .gtr 3 3, [sy 2, sy 0], .bool true), (.bin .gtr 3 3, [sy 1, sy 2], .bool false), (.bin .gtr 3 3, [sy 0, sy 2], .bool true), (.bin .gtr 3 3, [sy 0, sy 1], .bool true)], [], .agg ⟨[sy 1, sy 0, sy 2]⟩)
set_option maxRecDepth 1000000 in
theorem gangsawref29_sorted.x2 : gangsawref29_sorted.run gangsawref29_sorted.r2 = true := by kernel_rfl
def gangsawref29_sorted.r7 : Row := ([], [(.bin .gtr 3 3, [sy 0, sy 2], .bool true), (.bin .gtr 3 3, [sy 1, sy 2], .bool true), (.bin .gtr 3 3, [sy 0, sy 1], .bool false)], [], .agg ⟨[sy 2, sy 0, sy 1]⟩)
def gangsawref29_Cut.f (a0_0 : Int) (a0_1 : Int) (a0_2 : Int) (a0_3 : Int) (a0_4 : Int) (a0_5 : Int) (a1 : Int) (a2 : Int) : Option (Int) :=
  if a0_0 ≥ (-1000000) then (if a0_0 ≤ 1000000 then (if a0_1 ≥ (-1000000) then (if a0_1 ≤ 1000000 then (if a0_2 ≥ (-1000000) then (if a0_2 ≤ 1000000 then (if a0_3 ≥ (-1000000) then (if a0_3 ≤ 1000000 then (if a0_4 ≥ (-1000000) then (if a0_4 ≤ 1000000 then (if a0_5 ≥ (-1000000) then (if a0_5 ≤ 1000000 then (if a1 ≥ 0 then (if a1 ≤ 2 then (if a2 ≥ 0 then (if a2 ≤ 1000 then (if wrap64 (a0_3 - a0_0) < 1 then (some 1) else (if wrap64 (a0_4 - a0_1) < 1 then (some 1) else (if wrap64 (a0_5 - a0_2) < 1 then (some 1) else (some 0)))) else (some 1)) else (some 1)) else (some 1)) else (some 1)) else (some 1)) else (some 1)) else (some 1)) else (some 1)) else (some 1)) else (some 1)) else (some 1)) else (some 1)) else (some 1)) else (some 1)) else (some 1)) else (some 1)
noncomputable def gangsawref29_Cut.run (r : Row) : Bool := saysV (xcall Try.prog 0 10000 (orcOf r.1 r.2.1 r.2.2.1) 40 0 (.fn 13) [.agg ⟨[sy 0, sy 1, sy 2, sy 3, sy 4, sy 5]⟩, sy 6, sy 7] ⟨.leaf, 0⟩) r.2.2.2
def gangsawref29_Cut.r0 : Row := ([], [(.bin .lss 3 3, [sy 8, .int .i64 1], .bool true), (.bin .sub 3 3, [sy 5, sy 2], sy 10), (.bin .sub 3 3, [sy 4, sy 1], sy 9), (.bin .sub 3 3, [sy 3, sy 0], sy 8), (.bin .leq 3 3, [sy 7, .int .i64 1000], .bool true), (.bin .geq 3 3, [sy 7, .int .i64 0], .bool true), (.bin .leq 3 3, [sy 6, .int .i64 2], .bool true), (.bin .geq 3 3, [sy 6, .int .i64 0], .bool true), (.bin .leq 3 3, [sy 5, .int .i64 1000000], .bool true), (.bin .geq 3 3, [sy 5, .int .i64 (-1000000)], .bool true), (.bin .leq 3 3, [sy 4, .int .i64 1000000], .bool true), (.bin .geq 3 3, [sy 4, .int .i64 (-1000000)], .bool true), (.bin .leq 3 3, [sy 3, .int .i64 1000000], .bool true), (.bin .geq 3 3, [sy 3, .int .i64 (-1000000)], .bool true), (.bin .leq 3 3, [sy 2, .int .i64 1000000], .bool true), (.bin .geq 3 3, [sy 2, .int .i64 (-1000000)], .bool true), (.bin .leq 3 3, [sy 1, .int .i64 1000000], .bool true), (.bin .geq 3 3, [sy 1, .int .i64 (-1000000)], .bool true), (.bin .leq 3 3, [sy 0, .int .i64 1000000], .bool true), (.bin .geq 3 3, [sy 0, .int .i64 (-1000000)], .bool true)], [], .int .i64 1)
set_option maxRecDepth 1000000 in
theorem gangsawref29_Cut.x0 : gangsawref29_Cut.run gangsawref29_Cut.r0 = true := by kernel_rfl
def gangsawref29_Cut.r1 : Row := ([], [(.bin .lss 3 3, [sy 9, .int .i64 1], .bool true), (.bin .lss 3 3, [sy 8, .int .i64 1], .bool false), (.bin .sub 3 3, [sy 5, sy 2], sy 10), (.bin .sub 3 3, [sy 4, sy 1], sy 9), (.bin .sub 3 3, [sy 3, sy 0], sy 8), (.bin .leq 3 3, [sy 7, .int .i64 1000], .bool true), (.bin .geq 3 3, [sy 7, .int .i64 0], .bool true), (.bin .leq 3 3, [sy 6, .int .i64 2], .bool true), (.bin .geq 3 3, [sy 6, .int .i64 0], .bool true), (.bin .leq 3 3, [sy 5, .int .i64 1000000], .bool true), (.bin .geq 3 3, [sy 5, .int .i64 (-1000000)], .bool true), (.bin .leq 3 3, [sy 4, .int .i64 1000000], .bool true), (.bin .geq 3 3, [sy 4, .int .i64 (-1000000)], .bool true), (.bin .leq 3 3, [sy 3, .int .i64 1000000], .bool true), (.bin .geq 3 3, [sy 3, .int .i64 (-1000000)], .bool true), (.bin .leq 3 3, [sy 2, .int .i64 1000000], .bool true), (.bin .geq 3 3, [sy 2, .int .i64 (-1000000)], .bool true), (.bin .leq 3 3, [sy 1, .int .i64 1000000], .bool true), (.bin .geq 3 3, [sy 1, .int .i64 (-1000000)], .bool true), (.bin .leq 3 3, [sy 0, .int .i64 1000000], .bool true), (.bin .geq 3 3, [sy 0, .int .i64 (-1000000)], .bool true)], [], .int .i64 1)
set_option maxRecDepth 1000000 in
theorem gangsawref29_Cut.x1 : gangsawref29_Cut.run gangsawref29_Cut.r1 = true := by kernel_rfl
def gangsawref29_Cut.r2 : Row := ([], [(.bin .lss 3 3, [sy 10, .int .i64 1], .bool true), (.bin .lss 3 3, [sy 9, .int .i64 1], .bool false), (.bin .lss 3 3, [sy 8, .int .i64 1], .bool false), (.bin .sub 3 3, [sy 5, sy 2], sy 10), (.bin .sub 3 3, [sy 4, sy 1], sy 9), (.bin .sub 3 3, [sy 3, sy 0], sy 8), (.bin .leq 3 3, [sy 7, .int .i64 1000], .bool true), (.bin .geq 3 3, [sy 7, .int .i64 0], .bool true), (.bin .leq 3 3, [sy 6, .int .i64 2], .bool true), (.bin .geq 3 3, [sy 6, .int .i64 0], .bool true), (.bin .leq 3 3, [sy 5, .int .i64 1000000], .bool true), (.bin .geq 3 3, [sy 5, .int .i64 (-1000000)], .bool true), (.bin .leq 3 3, [sy 4, .int .i64 1000000], .bool true), (.bin .geq 3 3, [sy 4, .int .i64 (-1000000)], .bool true), (.bin .leq 3 3, [sy 3, .int .i64 1000000], .bool true), (.bin .geq 3 3, [sy 3, .int .i64 (-1000000)], .bool true), (.bin .leq 3 3, [sy 2, .int .i64 1000000], .bool true), (.bin .geq 3 3, [sy 2, .int .i64 (-1000000)], .bool true), (.bin .leq 3 3, [sy 1, .int .i64 1000000], .bool true), (.bin .geq 3 3, [sy 1, .int .i64 (-1000000)], .bool true), (.bin .leq 3 3, [sy 0, .int .i64 1000000], .bool true), (.bin .geq 3 3, [sy 0, .int .i64 (-1000000)], .bool true)], [], .int .i64 1)
set_option maxRecDepth 1000000 in
theorem gangsawref29_Cut.x2 : gangsawref29_Cut.run gangsawref29_Cut.r2 = true := by kernel_rfl
def gangsawref29_Cut.r3 : Row := ([], [(.bin .lss 3 3, [sy 10, .int .i64 1], .bool false), (.bin .lss 3 3, [sy 9, .int .i64 1], .bool false), (.bin .lss 3 3, [sy 8, .int .i64 1], .bool false), (.bin .sub 3 3, [sy 5, sy 2], sy 10), (.bin .sub 3 3, [sy 4, sy 1], sy 9), (.bin .sub 3 3, [sy 3, sy 0], sy 8), (.bin .leq 3 3, [sy 7, .int .i64 1000], .bool true), (.bin .geq 3 3, [sy 7, .int .i64 0], .bool true), (.bin .leq 3 3, [sy 6, .int .i64 2], .bool true), (.bin .geq 3 3, [sy 6, .int .i64 0], .bool true), (.bin .leq 3 3, [sy 5, .int .i64 1000000], .bool true), (.bin .geq 3 3, [sy 5, .int .i64 (-1000000)], .bool true), (.bin .leq 3 3, [sy 4, .int .i64 1000000], .bool true), (.bin .geq 3 3, [sy 4, .int .i64 (-1000000)], .bool true), (.bin .leq 3 3, [sy 3, .int .i64 1000000], .bool true), (.bin .geq 3 3, [sy 3, .int .i64 (-1000000)], .bool true), (.bin .leq 3 3, [sy 2, .int .i64 1000000], .bool true), (.bin .geq 3 3, [sy 2, .int .i64 (-1000000)], .bool true), (.bin .leq 3 3, [sy 1, .int .i64 1000000], .bool true), (.bin .geq 3 3, [sy 1, .int .i64 (-1000000)], .bool true), (.bin .leq 3 3, [sy 0, .int .i64 1000000], .bool true), (.bin .geq 3 3, [sy 0, .int .i64 (-1000000)], .bool true)], [], .int .i64 0)
set_option maxRecDepth 1000000 in
theorem gangsawref29_Cut.x3 : gangsawref29_Cut.run gangsawref29_Cut.r3 = true := by kernel_rfl
def gangsawref29_Cut.r4 : Row := ([], [(.bin .leq 3 3, [sy 7, .int .i64 1000], .bool false), (.bin .geq 3 3, [sy 7, .int .i64 0], .bool true), (.bin .leq 3 3, [sy 6, .int .i64 2], .bool true), (.bin .geq 3 3, [sy 6, .int .i64 0], .bool true), (.bin .leq 3 3, [sy 5, .int .i64 1000000], .bool true), (.bin .geq 3 3, [sy 5, .int .i64 (-1000000)], .bool true), (.bin .leq 3 3, [sy 4, .int .i64 1000000], .bool true), (.bin .geq 3 3, [sy 4, .int .i64 (-1000000)], .bool true), (.bin .leq 3 3, [sy 3, .int .i64 1000000], .bool true), (.bin .geq 3 3, [sy 3, .int .i64 (-1000000)], .bool true), (.bin .leq 3 3, [sy 2, .int .i64 1000000], .bool true), (.bin .geq 3 3, [sy 2, .int .i64 (-1000000)], .bool true), (.bin .leq 3 3, [sy 1, .int .i64 1000000], .bool true), (.bin .geq 3 3, [sy 1, .int .i64 (-1000000)], .bool true), (.bin .leq 3 3, [sy 0, .int .i64 1000000], .bool true), (.bin .geq 3 3, [sy 0, .int .i64 (-1000000)], .bool true)], [], .int .i64 1)
set_option maxRecDepth 1000000 in
theorem gangsawref29_Cut.x4 : gangsawref29_Cut.run gangsawref29_Cut.r4 = true := by kernel_rfl
def gangsawref29_Cut.r5 : Row := ([], [(.bin .geq 3 3, [sy 7, .int .i64 0], .bool false), (.bin .leq 3 3, [sy 6, .int .i64 2], .bool true), (.bin .geq 3 3, [sy 6, .int .i64 0], .bool true), (.bin .leq 3 3, [sy 5, .int .i64 1000000], .bool true), (.bin .geq 3 3, [sy 5, .int .i64 (-1000000)], .bool true), (.bin .leq 3 3, [sy 4, .int .i64 1000000], .bool true), (.bin .geq 3 3, [sy 4, .int .i64 (-1000000)], .bool true), (.bin .leq 3 3, [sy 3, .int .i64 1000000], .bool true), (.bin .geq 3 3, [sy 3, .int .i64 (-1000000)], .bool true), (.bin .leq 3 3, [sy 2, .int .i64 1000000], .bool true), (.bin .geq 3 3, [sy 2, .int .i64 (-1000000)], .bool true), (.bin .leq 3 3, [sy 1, .int .i64 1000000], .bool true), (.bin .geq 3 3, [sy 1, .int .i64 (-1000000)], .bool true), (.bin .leq 3 3, [sy 0, .int .i64 1000000], .bool true), (.bin .geq 3 3, [sy 0, .int .i64 (-1000000)], .bool true)], [], .int .i64 1)
set_option maxRecDepth 1000000 in
theorem gangsawref29_Cut.x5 : gangsawref29_Cut.run gangsawref29_Cut.r5 = true := by kernel_rfl
def gangsawref29_Cut.r6 : Row := ([], [(.bin .leq 3 3, [sy 6, .int .i64 2], .bool false), (.bin .geq 3 3, [sy 6, .int .i64 0], .bool true), (.bin .leq 3 3, [sy 5, .int .i64 1000000], .bool true), (.bin .geq 3 3, [sy 5, .int .i64 (-1000000)], .bool true), (.bin .leq 3 3, [sy 4, .int .i64 1000000], .bool true), (.bin .geq 3 3, [sy 4, .int .i64 (-1000000)], .bool true), (.bin .leq 3 3, [sy 3, .int .i64 1000000], .bool true), (.bin .geq 3 3, [sy 3, .int .i64 (-1000000)], .bool true), (.bin .leq 3 3, [sy 2, .int .i64 1000000], .bool true), (.bin .geq 3 3, [sy 2, .int .i64 (-1000000)], .bool true), (.bin .leq 3 3, [sy 1, .int .i64 1000000], .bool true), (.bin .geq 3 3, [sy 1, .int .i64 (-1000000)], .bool true), (.bin .leq 3 3, [sy 0, .int .i64 1000000], .bool true), (.bin .geq 3 3, [sy 0, .int .i64 (-1000000)], .bool true)], [], .int .i64 1)
set_option maxRecDepth 1000000 in
theorem gangsawref29_Cut.x6 : gangsawref29_Cut.run gangsawref29_Cut.r6 = true := by kernel_rfl
def gangsawref29_Cut.r7 : Row := ([], [(.bin .geq 3 3, [sy 6, .int .i64 0], .bool false), (.bin .leq 3 3, [sy 5, .int .i64 1000000], .bool true), (.bin .geq 3 3, [sy 5, .int .i64 (-1000000)], .bool true), (.bin .leq 3 3, [sy 4, .int .i64 1000000], .bool true), (.bin .geq 3 3, [sy 4, .int .i64 (-1000000)], .bool true), (.bin .leq 3 3, [sy 3, .int .i64 1000000], .bool true), (.bin .geq 3 3, [sy 3, .int .i64 (-1000000)], .bool true), (.bin .leq 3 3, [sy 2, .int .i64 1000000], .bool true), (.bin .geq 3 3, [sy 2, .int .i64 (-1000000)], .bool true), (.bin .leq 3 3, [sy 1, .int .i64 1000000], .bool true), (.bin .geq 3 3, [sy 1, .int .i64 (-1000000)], .bool true), (.bin .leq 3 3, [sy 0, .int .i64 1000000], .bool true), (.bin .geq 3 3, [sy 0, .int .i64 (-1000000)], .bool true)], [], .int .i64 1)
set_option maxRecDepth 1000000 in
theorem gangsawref29_Cut.x7 : gangsawref29_Cut.run gangsawref29_Cut.r7 = true := by kernel_rfl
def gangsawref29_Cut.r8 : Row := ([], [(.bin .leq 3 3, [sy 5, .int .i64 1000000], .bool false), (.bin .geq 3 3, [sy 5, .int .i64 (-1000000)], .bool true), (.bin .leq 3 3, [sy 4, .int .i64 1000000], .bool true), (.bin .geq 3 3, [sy 4, .int .i64 (-1000000)], .bool true), (.bin .leq 3 3, [sy 3, .int .i64 1000000], .bool true), (.bin .geq 3 3, [sy 3, .int .i64 (-1000000)], .bool true), (.bin .leq 3 3, [sy 2, .int .i64 1000000], .bool true), (.bin .geq 3 3, [sy 2, .int .i64 (-1000000)], .bool true), (.bin .leq 3 3, [sy 1, .int .i64 1000000], .bool true), (.bin .geq 3 3, [sy 1, .int .i64 (-1000000)], .bool true), (.bin .leq 3 3, [sy 0, .int .i64 1000000], .bool true), (.bin .geq 3 3, [sy 0, .int .i64 (-1000000)], .bool true)], [], .int .i64 1)
set_option maxRecDepth 1000000 in
theorem gangsawref29_Cut.x8 : gangsawref29_Cut.run gangsawref29_Cut.r8 = true := by kernel_rfl
def gangsawref29_Cut.r9 : Row := ([], [(.bin .geq 3 3, [sy 5, .int .i64 (-1000000)], .bool false), (.bin .leq 3 3, [sy 4, .int .i64 1000000], .bool true), (.bin .geq 3 3, [sy 4, .int .i64 (-1000000)], .bool true), (.bin .leq 3 3, [sy 3, .int .i64 1000000], .bool true), (.bin .geq 3 3, [sy 3, .int .i64 (-1000000)], .bool true), (.bin .leq 3 3, [sy 2, .int .i64 1000000], .bool true), (.bin .geq 3 3, [sy 2, .int .i64 (-1000000)], .bool true), (.bin .leq 3 3, [sy 1, .int .i64 1000000], .bool true), (.bin .geq 3 3, [sy 1, .int .i64 (-1000000)], .bool true), (.bin .leq 3 3, [sy 0, .int .i64 1000000], .bool true), (.bin .geq 3 3, [sy 0, .int .i64 (-1000000)], .bool true)], [], .int .i64 1)
set_option maxRecDepth 1000000 in
theorem gangsawref29_Cut.x9 : gangsawref29_Cut.run gangsawref29_Cut.r9 = true := by kernel_rfl
def gangsawref29_Cut.r10 : Row := ([], [(.bin .leq 3 3, [sy 4, .int .i64 1000000], .bool false), (.bin .geq 3 3, [sy 4, .int .i64 (-1000000)], .bool true), (.bin .leq 3 3, [sy 3, .int .i64 1000000], .bool true), (.bin .geq 3 3, [sy 3, .int .i64 (-1000000)], .bool true), (.bin .leq 3 3, [sy 2, .int .i64 1000000], .bool true), (.bin .geq 3 3, [sy 2, .int .i64 (-1000000)], .bool true), (.bin .leq 3 3, [sy 1, .int .i64 1000000], .bool true), (.bin .geq 3 3, [sy 1, .int .i64 (-1000000)], .bool true), (.bin .leq 3 3, [sy 0, .int .i64 1000000], .bool true), (.bin .geq 3 3, [sy 0, .int .i64 (-1000000)], .bool true)], [], .int .i64 1)
set_option maxRecDepth 1000000 in
theorem gangsawref29_Cut.x10 : gangsawref29_Cut.run gangsawref29_Cut.r10 = true := by kernel_rfl
def gangsawref29_Cut.r11 : Row := ([], [(.bin .geq 3 3, [sy 4, .int .i64 (-1000000)], .bool false), (.bin .leq 3 3, [sy 3, .int .i64 1000000], .bool true), (.bin .geq 3 3, [sy 3, .int .i64 (-1000000)], .bool true), (.bin .leq 3 3, [sy 2, .int .i64 1000000], .bool true), (.bin .geq 3 3, [sy 2, .int .i64 (-1000000)], .bool true), (.bin .leq 3 3, [sy 1, .int .i64 1000000], .bool true), (.bin .geq 3 3, [sy 1, .int .i64 (-1000000)], .bool true), (.bin .leq 3 3, [sy 0, .int .i64 1000000], .bool true), (.bin .geq 3 3, [sy 0, .int .i64 (-1000000)], .bool true)], [], .int .i64 1)
set_option maxRecDepth 1000000 in
theorem gangsawref29_Cut.x11 : gangsawref29_Cut.run gangsawref29_Cut.r11 = true := by kernel_rfl
def gangsawref29_Cut.r12 : Row := ([], [(.bin .leq 3 3, [sy 3, .int .i64 1000000], .bool false), (.bin .geq 3 3, [sy 3, .int .i64 (-1000000)], .bool true), (.bin .leq 3 3, [sy 2, .int .i64 1000000], .bool true), (.bin .geq 3 3, [sy 2, .int .i64 (-1000000)], .bool true), (.bin .leq 3 3, [sy 1, .int .i64 1000000], .bool true), (.bin .geq 3 3, [sy 1, .int .i64 (-1000000)], .bool true), (.bin .leq 3 3, [sy 0, .int .i64 1000000], .bool true), (.bin .geq 3 3, [sy 0, .int .i64 (-1000000)], .bool true)], [], .int .i64 1)
set_option maxRecDepth 1000000 in
theorem gangsawref29_Cut.x12 : gangsawref29_Cut.run gangsawref29_Cut.r12 = true := by kernel_rfl
def gangsawref29_Cut.r13 : Row := ([], [(.bin .geq 3 3, [sy 3, .int .i64 (-1000000)], .bool false), (.bin .leq 3 3, [sy 2, .int .i64 1000000], .bool true), (.bin .geq 3 3, [sy 2, .int .i64 (-1000000)], .bool true), (.bin .leq 3 3, [sy 1, .int .i64 1000000], .bool true), (.bin .geq 3 3, [sy 1, .int .i64 (-1000000)], .bool true), (.bin .leq 3 3, [sy 0, .int .i64 1000000], .bool true), (.bin .geq 3 3, [sy 0, .int .i64 (-1000000)], .bool true)], [], .int .i64 1)
set_option maxRecDepth 1000000 in
theorem gangsawref29_Cut.x13 : gangsawref29_Cut.run gangsawref29_Cut.r13 = true := by kernel_rfl
def gangsawref29_Cut.r14 : Row := ([], [(.bin .leq 3 3, [sy 2, .int .i64 1000000], .bool false), (.bin .geq 3 3, [sy 2, .int .i64 (-1000000)], .bool true), (.bin .leq 3 3, [sy 1, .int .i64 1000000], .bool true), (.bin .geq 3 3, [sy 1, .int .i64 (-1000000)], .bool true), (.bin .leq 3 3, [sy 0, .int .i64 1000000], .bool true), (.bin .geq 3 3, [sy 0, .int .i64 (-1000000)], .bool true)], [], .int .i64 1)
set_option maxRecDepth 1000000 in
theorem gangsawref29_Cut.x14 : gangsawref29_Cut.run gangsawref29_Cut.r14 = true := by kernel_rfl
def gangsawref29_Cut.r15 : Row := ([], [(.bin .geq 3 3, [sy 2, .int .i64 (-1000000)], .bool false), (.bin .leq 3 3, [sy 1, .int .i64 1000000], .bool true), (.bin .geq 3 3, [sy 1, .int .i64 (-1000000)], .bool true), (.bin .leq 3 3, [sy 0, .int .i64 1000000], .bool true), (.bin .geq 3 3, [sy 0, .int .i64 (-1000000)], .bool true)], [], .int .i64 1)
set_option maxRecDepth 1000000 in
theorem gangsawref29_Cut.x15 : gangsawref29_Cut.run gangsawref29_Cut.r15 = true := by kernel_rfl
def gangsawref29_Cut.r16 : Row := ([], [(.bin .leq 3 3, [sy 1, .int .i64 1000000], .bool false), (.bin .geq 3 3, [sy 1, .int .i64 (-1000000)], .bool true), (.bin .leq 3 3, [sy 0, .int .i64 1000000], .bool true), (.bin .geq 3 3, [sy 0, .int .i64 (-1000000)], .bool true)], [], .int .i64 1)
set_option maxRecDepth 1000000 in
theorem gangsawref29_Cut.x16 : gangsawref29_Cut.run gangsawref29_Cut.r16 = true := by kernel_rfl
def gangsawref29_Cut.r17 : Row := ([], [(.bin .geq 3 3, [sy 1, .int .i64 (-1000000)], .bool false), (.bin .leq 3 3, [sy 0, .int .i64 1000000], .bool true), (.bin .geq 3 3, [sy 0, .int .i64 (-1000000)], .bool true)], [], .int .i64 1)
set_option maxRecDepth 1000000 in
theorem gangsawref29_Cut.x17 : gangsawref29_Cut.run gangsawref29_Cut.r17 = true := by kernel_rfl
def gangsawref29_Cut.r18 : Row := ([], [(.bin .leq 3 3, [sy 0, .int .i64 1000000], .bool false), (.bin .geq 3 3, [sy 0, .int .i64 (-1000000)], .bool true)], [], .int .i64 1)
set_option maxRecDepth 1000000 in
theorem gangsawref29_Cut.x18 : gangsawref29_Cut.run gangsawref29_Cut.r18 = true := by kernel_rfl
def gangsawref29_Cut.r19 : Row := ([], [(.bin .geq 3 3, [sy 0, .int .i64 (-1000000)], .bool false)], [], .int .i64 1)
set_option maxRecDepth 1000000 in
theorem gangsawref29_Cut.x19 : gangsawref29_Cut.run gangsawref29_Cut.r19 = true := by kernel_rfl
theorem gangsawref29_Cut.calls (a0_0 : Int) (a0_1 : Int) (a0_2 : Int) (a0_3 : Int) (a0_4 : Int) (a0_5 : Int) (a1 : Int) (a2 : Int) (r : Int) (w : World) (h : gangsawref29_Cut.f a0_0 a0_1 a0_2 a0_3 a0_4 a0_5 a1 a2 = some r) : Calls Try.prog 13 #[.agg #[.int .i64 a0_0, .int .i64 a0_1, .int .i64 a0_2, .int .i64 a0_3, .int .i64 a0_4, .int .i64 a0_5], .int .i64 a1, .int .i64 a2] w fun e w' => e = .returned (.int .i64 r) ∧ Below w.heap.size w w' := by
  unfold gangsawref29_Cut.f at h
  by_cases h1 : a0_0 ≥ (-1000000)
  · rw [if_pos h1] at h
    by_cases h2 : a0_0 ≤ 1000000
    · rw [if_pos h2] at h
      by_cases h3 : a0_1 ≥ (-1000000)
      · rw [if_pos h3] at h
        by_cases h4 : a0_1 ≤ 1000000
        · rw [if_pos h4] at h
          by_cases h5 : a0_2 ≥ (-1000000)
          · rw [if_pos h5] at h
            by_cases h6 : a0_2 ≤ 1000000
            · rw [if_pos h6] at h
              by_cases h7 : a0_3 ≥ (-1000000)
              · rw [if_pos h7] at h
                by_cases h8 : a0_3 ≤ 1000000
                · rw [if_pos h8] at h
                  by_cases h9 : a0_4 ≥ (-1000000)
                  · rw [if_pos h9] at h
                    by_cases h10 : a0_4 ≤ 1000000
                    · rw [if_pos h10] at h
                      by_cases h11 : a0_5 ≥ (-1000000)
                      · rw [if_pos h11] at h
                        by_cases h12 : a0_5 ≤ 1000000
                        · rw [if_pos h12] at h
                          by_cases h13 : a1 ≥ 0
                          · rw [if_pos h13] at h
                            by_cases h14 : a1 ≤ 2
                            · rw [if_pos h14] at h
                              by_cases h15 : a2 ≥ 0
                              · rw [if_pos h15] at h
                                by_cases h16 : a2 ≤ 1000
                                · rw [if_pos h16] at h
                                  by_cases h17 : wrap64 (a0_3 - a0_0) < 1
                                  · rw [if_pos h17] at h
                                    obtain rfl := Option.some.inj h
                                    letI : Syms := symsOf [.int .i64 a0_0, .int .i64 a0_1, .int .i64 a0_2, .int .i64 a0_3, .int .i64 a0_4, .int .i64 a0_5, .int .i64 a1, .int .i64 a2, .int .i64 (wrap64 (a0_3 - a0_0)), .int .i64 (wrap64 (a0_4 - a0_1)), .int .i64 (wrap64 (a0_5 - a0_2))] rfl
                                    exact run_leaf (r := gangsawref29_Cut.r0) follows noNum gangsawref29_Cut.x0 trivial ⟨ks_lss true (decide_eq_true h17), ks_sub64, ks_sub64, ks_sub64, ks_leq true (decide_eq_true h16), ks_geq true (decide_eq_true h15), ks_leq true (decide_eq_true h14), ks_geq true (decide_eq_true h13), ks_leq true (decide_eq_true h12), ks_geq true (decide_eq_true h11), ks_leq true (decide_eq_true h10), ks_geq true (decide_eq_true h9), ks_leq true (decide_eq_true h8), ks_geq true (decide_eq_true h7), ks_leq true (decide_eq_true h6), ks_geq true (decide_eq_true h5), ks_leq true (decide_eq_true h4), ks_geq true (decide_eq_true h3), ks_leq true (decide_eq_true h2), ks_geq true (decide_eq_true h1), trivial⟩ trivial rfl rfl w
                                  · rw [if_neg h17] at h
                                    by_cases h18 : wrap64 (a0_4 - a0_1) < 1
                                    · rw [if_pos h18] at h
                                      obtain rfl := Option.some.inj h
                                      letI : Syms := symsOf [.int .i64 a0_0, .int .i64 a0_1, .int .i64 a0_2, .int .i64 a0_3, .int .i64 a0_4, .int .i64 a0_5, .int .i64 a1, .int .i64 a2, .int .i64 (wrap64 (a0_3 - a0_0)), .int .i64 (wrap64 (a0_4 - a0_1)), .int .i64 (wrap64 (a0_5 - a0_2))] rfl
                                      exact run_leaf (r := gangsawref29_Cut.r1) follows noNum gangsawref29_Cut.x1 trivial ⟨ks_lss true (decide_eq_true h18), ks_lss false (decide_eq_false h17), ks_sub64, ks_sub64, ks_sub64, ks_leq true (decide_eq_true h16), ks_geq true (decide_eq_true h15), ks_leq true (decide_eq_true h14), ks_geq true (decide_eq_true h13), ks_leq true (decide_eq_true h12), ks_geq true (decide_eq_true h11), ks_leq true (decide_eq_true h10), ks_geq true (decide_eq_true h9), ks_leq true (decide_eq_true h8), ks_geq true (decide_eq_true h7), ks_leq true (decide_eq_true h6), ks_geq true (decide_eq_true h5), ks_leq true (decide_eq_true h4), ks_geq true (decide_eq_true h3), ks_leq true (decide_eq_true h2), ks_geq true (decide_eq_true h1), trivial⟩ trivial rfl rfl w
                                    · rw [if_neg h18] at h
                                      by_cases h19 : wrap64 (a0_5 - a0_2) < 1
                                      · rw [if_pos h19] at h
                                        obtain rfl := Option.some.inj h
                                        letI : Syms := symsOf [.int .i64 a0_0, .int .i64 a0_1, .int .i64 a0_2, .int .i64 a0_3, .int .i64 a0_4, .int .i64 a0_5, .int .i64 a1, .int .i64 a2, .int .i64 (wrap64 (a0_3 - a0_0)), .int .i64 (wrap64 (a0_4 - a0_1)), .int .i64 (wrap64 (a0_5 - a0_2))] rfl
                                        exact run_leaf (r := gangsawref29_Cut.r2) follows noNum gangsawref29_Cut.x2 trivial ⟨ks_lss true (decide_eq_true h19), ks_lss false (decide_eq_false h18), ks_lss false (decide_eq_false h17), ks_sub64, ks_sub64, ks_sub64, ks_leq true (decide_eq_true h16), ks_geq true (decide_eq_true h15), ks_leq true (decide_eq_true h14), ks_geq true (decide_eq_true h13), ks_leq true (decide_eq_true h12), ks_geq true (decide_eq_true h11), ks_leq true (decide_eq_true h10), ks_geq true (decide_eq_true h9), ks_leq true (decide_eq_true h8), ks_geq true (decide_eq_true h7), ks_leq true (decide_eq_true h6), ks_geq true (decide_eq_true h5), ks_leq true (decide_eq_true h4), ks_geq true (decide_eq_true h3), ks_leq true (decide_eq_true h2), ks_geq true (decide_eq_true h1), trivial⟩ trivial rfl rfl w
                                      · rw [if_neg h19] at h
                                        obtain rfl := Option.some.inj h
                                        letI : Syms := symsOf [.int .i64 a0_0, .int .i64 a0_1, .int .i64 a0_2, .int .i64 a0_3, .int .i64 a0_4, .int .i64 a0_5, .int .i64 a1, .int .i64 a2, .int .i64 (wrap64 (a0_3 - a0_0)), .int .i64 (wrap64 (a0_4 - a0_1)), .int .i64 (wrap64 (a0_5 - a0_2))] rfl
                                        exact run_leaf (r := gangsawref29_Cut.r3) follows noNum gangsawref29_Cut.x3 trivial ⟨ks_lss false (decide_eq_false h19), ks_lss false (decide_eq_false h18), ks_lss false (decide_eq_false h17), ks_sub64, ks_sub64, ks_sub64, ks_leq true (decide_eq_true h16), ks_geq true (decide_eq_true h15), ks_leq true (decide_eq_true h14), ks_geq true (decide_eq_true h13), ks_leq true (decide_eq_true h12), ks_geq true (decide_eq_true h11), ks_leq true (decide_eq_true h10), ks_geq true (decide_eq_true h9), ks_leq true (decide_eq_true h8), ks_geq true (decide_eq_true h7), ks_leq true (decide_eq_true h6), ks_geq true (decide_eq_true h5), ks_leq true (decide_eq_true h4), ks_geq true (decide_eq_true h3), ks_leq true (decide_eq_true h2), ks_geq true (decide_eq_true h1), trivial⟩ trivial rfl rfl w
                                · rw [if_neg h16] at h
                                  obtain rfl := Option.some.inj h
                                  letI : Syms := symsOf [.int .i64 a0_0, .int .i64 a0_1, .int .i64 a0_2, .int .i64 a0_3, .int .i64 a0_4, .int .i64 a0_5, .int .i64 a1, .int .i64 a2] rfl
                                  exact run_leaf (r := gangsawref29_Cut.r4) follows noNum gangsawref29_Cut.x4 trivial ⟨ks_leq false (decide_eq_false h16), ks_geq true (decide_eq_true h15), ks_leq true (decide_eq_true h14), ks_geq true (decide_eq_true h13), ks_leq true (decide_eq_true h12), ks_geq true (decide_eq_true h11), ks_leq true (decide_eq_true h10), ks_geq true (decide_eq_true h9), ks_leq true (decide_eq_true h8), ks_geq true (decide_eq_true h7), ks_leq true (decide_eq_true h6), ks_geq true (decide_eq_true h5), ks_leq true (decide_eq_true h4), ks_geq true (decide_eq_true h3), ks_leq true (decide_eq_true h2), ks_geq true (decide_eq_true h1), trivial⟩ trivial rfl rfl w
                              · rw [if_neg h15] at h
                                obtain rfl := Option.some.inj h
                                letI : Syms := symsOf [.int .i64 a0_0, .int .i64 a0_1, .int .i64 a0_2, .int .i64 a0_3, .int .i64 a0_4, .int .i64 a0_5, .int .i64 a1, .int .i64 a2] rfl
                                exact run_leaf (r := gangsawref29_Cut.r5) follows noNum gangsawref29_Cut.x5 trivial ⟨ks_geq false (decide_eq_false h15), ks_leq true (decide_eq_true h14), ks_geq true (decide_eq_true h13), ks_leq true (decide_eq_true h12), ks_geq true (decide_eq_true h11), ks_leq true (decide_eq_true h10), ks_geq true (decide_eq_true h9), ks_leq true (decide_eq_true h8), ks_geq true (decide_eq_true h7), ks_leq true (decide_eq_true h6), ks_geq true (decide_eq_true h5), ks_leq true (decide_eq_true h4), ks_geq true (decide_eq_true h3), ks_leq true (decide_eq_true h2), ks_geq true (decide_eq_true h1), trivial⟩ trivial rfl rfl w
                            · rw [if_neg h14] at h
                              obtain rfl := Option.some.inj h
                              letI : Syms := symsOf [.int .i64 a0_0, .int .i64 a0_1, .int .i64 a0_2, .int .i64 a0_3, .int .i64 a0_4, .int .i64 a0_5, .int .i64 a1, .int .i64 a2] rfl
                              exact run_leaf (r := gangsawref29_Cut.r6) follows noNum gangsawref29_Cut.x6 trivial ⟨ks_leq false (decide_eq_false h14), ks_geq true (decide_eq_true h13), ks_leq true (decide_eq_true h12), ks_geq true (decide_eq_true h11), ks_leq true (decide_eq_true h10), ks_geq true (decide_eq_true h9), ks_leq true (decide_eq_true h8), ks_geq true (decide_eq_true h7), ks_leq true (decide_eq_true h6), ks_geq true (decide_eq_true h5), ks_leq true (decide_eq_true h4), ks_geq true (decide_eq_true h3), ks_leq true (decide_eq_true h2), ks_geq true (decide_eq_true h1), trivial⟩ trivial rfl rfl w
                          · rw [if_neg h13] at h
                            obtain rfl := Option.some.inj h
                            letI : Syms := symsOf [.int .i64 a0_0, .int .i64 a0_1, .int .i64 a0_2, .int .i64 a0_3, .int .i64 a0_4, .int .i64 a0_5, .int .i64 a1, .int .i64 a2] rfl
                            exact run_leaf (r := gangsawref29_Cut.r7) follows noNum gangsawref29_Cut.x7 trivial ⟨ks_geq false (decide_eq_false h13), ks_leq true (decide_eq_true h12), ks_geq true (decide_eq_true h11), ks_leq true (decide_eq_true h10), ks_geq true (decide_eq_true h9), ks_leq true (decide_eq_true h8), ks_geq true (decide_eq_true h7), ks_leq true (decide_eq_true h6), ks_geq true (decide_eq_true h5), ks_leq true (decide_eq_true h4), ks_geq true (decide_eq_true h3), ks_leq true (decide_eq_true h2), ks_geq true (decide_eq_true h1), trivial⟩ trivial rfl rfl w
                        · rw [if_neg h12] at h
                          obtain rfl := Option.some.inj h
                          letI : Syms := symsOf [.int .i64 a0_0, .int .i64 a0_1, .int .i64 a0_2, .int .i64 a0_3, .int .i64 a0_4, .int .i64 a0_5, .int .i64 a1, .int .i64 a2] rfl
                          exact run_leaf (r := gangsawref29_Cut.r8) follows noNum gangsawref29_Cut.x8 trivial ⟨ks_leq false (decide_eq_false h12), ks_geq true (decide_eq_true h11), ks_leq true (decide_eq_true h10), ks_geq true (decide_eq_true h9), ks_leq true (decide_eq_true h8), ks_geq true (decide_eq_true h7), ks_leq true (decide_eq_true h6), ks_geq true (decide_eq_true h5), ks_leq true (decide_eq_true h4), ks_geq true (decide_eq_true h3), ks_leq true (decide_eq_true h2), ks_geq true (decide_eq_true h1), trivial⟩ trivial rfl rfl w
                      · rw [if_neg h11] at h
                        obtain rfl := Option.some.inj h
                        letI : Syms := symsOf [.int .i64 a0_0, .int .i64 a0_1, .int .i64 a0_2, .int .i64 a0_3, .int .i64 a0_4, .int .i64 a0_5, .int .i64 a1, .int .i64 a2] rfl
                        exact run_leaf (r := gangsawref29_Cut.r9) follows noNum gangsawref29_Cut.x9 trivial ⟨ks_geq false (decide_eq_false h11), ks_leq true (decide_eq_true h10), ks_geq true (decide_eq_true h9), ks_leq true (decide_eq_true h8), ks_geq true (decide_eq_true h7), ks_leq true (decide_eq_true h6), ks_geq true (decide_eq_true h5), ks_leq true (decide_eq_true h4), ks_geq true (decide_eq_true h3), ks_leq true (decide_eq_true h2), ks_geq true (decide_eq_true h1), trivial⟩ trivial rfl rfl w
                    · rw [if_neg h10] at h
                      obtain rfl := Option.some.inj h
                      letI : Syms := symsOf [.int .i64 a0_0, .int .i64 a0_1, .int .i64 a0_2, .int .i64 a0_3, .int .i64 a0_4, .int .i64 a0_5, .int .i64 a1, .int .i64 a2] rfl
                      exact run_leaf (r := gangsawref29_Cut.r10) follows noNum gangsawref29_Cut.x10 trivial ⟨ks_leq false (decide_eq_false h10), ks_geq true (decide_eq_true h9), ks_leq true (decide_eq_true h8), ks_geq true (decide_eq_true h7), ks_leq true (decide_eq_true h6), ks_geq true (decide_eq_true h5), ks_leq true (decide_eq_true h4), ks_geq true (decide_eq_true h3), ks_leq true (decide_eq_true h2), ks_geq true (decide_eq_true h1), trivial⟩ trivial rfl rfl w
                  · rw [if_neg h9] at h
                    obtain rfl := Option.some.inj h
                    letI : Syms := symsOf [.int .i64 a0_0, .int .i64 a0_1, .int .i64 a0_2, .int .i64 a0_3, .int .i64 a0_4, .int .i64 a0_5, .int .i64 a1, .int .i64 a2] rfl
                    exact run_leaf (r := gangsawref29_Cut.r11) follows noNum gangsawref29_Cut.x11 trivial ⟨ks_geq false (decide_eq_false h9), ks_leq true (decide_eq_true h8), ks_geq true (decide_eq_true h7), ks_leq true (decide_eq_true h6), ks_geq true (decide_eq_true h5), ks_leq true (decide_eq_true h4), ks_geq true (decide_eq_true h3), ks_leq true (decide_eq_true h2), ks_geq true (decide_eq_true h1), trivial⟩ trivial rfl rfl w
                · rw [if_neg h8] at h
                  obtain rfl := Option.some.inj h
                  letI : Syms := symsOf [.int .i64 a0_0, .int .i64 a0_1, .int .i64 a0_2, .int .i64 a0_3, .int .i64 a0_4, .int .i64 a0_5, .int .i64 a1, .int .i64 a2] rfl
                  exact run_leaf (r := gangsawref29_Cut.r12) follows noNum gangsawref29_Cut.x12 trivial ⟨ks_leq false (decide_eq_false h8), ks_geq true (decide_eq_true h7), ks_leq true (decide_eq_true h6), ks_geq true (decide_eq_true h5), ks_leq true (decide_eq_true h4), ks_geq true (decide_eq_true h3), ks_leq true (decide_eq_true h2), ks_geq true (decide_eq_true h1), trivial⟩ trivial rfl rfl w
              · rw [if_neg h7] at h
                obtain rfl := Option.some.inj h
                letI : Syms := symsOf [.int .i64 a0_0, .int .i64 a0_1, .int .i64 a0_2, .int .i64 a0_3, .int .i64 a0_4, .int .i64 a0_5, .int .i64 a1, .int .i64 a2] rfl
                exact run_leaf (r := gangsawref29_Cut.r13) follows noNum gangsawref29_Cut.x13 trivial ⟨ks_geq false (decide_eq_false h7), ks_leq true (decide_eq_true h6), ks_geq true (decide_eq_true h5), ks_leq true (decide_eq_true h4), ks_geq true (decide_eq_true h3), ks_leq true (decide_eq_true h2), ks_geq true (decide_eq_true h1), trivial⟩ trivial rfl rfl w
            · rw [if_neg h6] at h
              obtain rfl := Option.some.inj h
              letI : Syms := symsOf [.int .i64 a0_0, .int .i64 a0_1, .int .i64 a0_2, .int .i64 a0_3, .int .i64 a0_4, .int .i64 a0_5, .int .i64 a1, .int .i64 a2] rfl
              exact run_leaf (r := gangsawref29_Cut.r14) follows noNum gangsawref29_Cut.x14 trivial ⟨ks_leq false (decide_eq_false h6), ks_geq true (decide_eq_true h5), ks_leq true (decide_eq_true h4), ks_geq true (decide_eq_true h3), ks_leq true (decide_eq_true h2), ks_geq true (decide_eq_true h1), trivial⟩ trivial rfl rfl w
          · rw [if_neg h5] at h
            obtain rfl := Option.some.inj h
            letI : Syms := symsOf [.int .i64 a0_0, .int .i64 a0_1, .int .i64 a0_2, .int .i64 a0_3, .int .i64 a0_4, .int .i64 a0_5, .int .i64 a1, .int .i64 a2] rfl
            exact run_leaf (r := gangsawref29_Cut.r15) follows noNum gangsawref29_Cut.x15 trivial ⟨ks_geq false (decide_eq_false h5), ks_leq true (decide_eq_true h4), ks_geq true (decide_eq_true h3), ks_leq true (decide_eq_true h2), ks_geq true (decide_eq_true h1), trivial⟩ trivial rfl rfl w
        · rw [if_neg h4] at h
          obtain rfl := Option.some.inj h
          letI : Syms := symsOf [.int .i64 a0_0, .int .i64 a0_1, .int .i64 a0_2, .int .i64 a0_3, .int .i64 a0_4, .int .i64 a0_5, .int .i64 a1, .int .i64 a2] rfl
          exact run_leaf (r := gangsawref29_Cut.r16) follows noNum gangsawref29_Cut.x16 trivial ⟨ks_leq false (decide_eq_false h4), ks_geq true (decide_eq_true h3), ks_leq true (decide_eq_true h2), ks_geq true (decide_eq_true h1), trivial⟩ trivial rfl rfl w
      · rw [if_neg h3] at h
        obtain rfl := Option.some.inj h
        letI : Syms := symsOf [.int .i64 a0_0, .int .i64 a0_1, .int .i64 a0_2, .int .i64 a0_3, .int .i64 a0_4, .int .i64 a0_5, .int .i64 a1, .int .i64 a2] rfl
        exact run_leaf (r := gangsawref29_Cut.r17) follows noNum gangsawref29_Cut.x17 trivial ⟨ks_geq false (decide_eq_false h3), ks_leq true (decide_eq_true h2), ks_geq true (decide_eq_true h1), trivial⟩ trivial rfl rfl w
    · rw [if_neg h2] at h
      obtain rfl := Option.some.inj h
      letI : Syms := symsOf [.int .i64 a0_0, .int .i64 a0_1, .int .i64 a0_2, .int .i64 a0_3, .int .i64 a0_4, .int .i64 a0_5, .int .i64 a1, .int .i64 a2] rfl
      exact run_leaf (r := gangsawref29_Cut.r18) follows noNum gangsawref29_Cut.x18 trivial ⟨ks_leq false (decide_eq_false h2), ks_geq true (decide_eq_true h1), trivial⟩ trivial rfl rfl w
  · rw [if_neg h1] at h
    obtain rfl := Option.some.inj h
    letI : Syms := symsOf [.int .i64 a0_0, .int .i64 a0_1, .int .i64 a0_2, .int .i64 a0_3, .int .i64 a0_4, .int .i64 a0_5, .int .i64 a1, .int .i64 a2] rfl
    exact run_leaf (r := gangsawref29_Cut.r19) follows noNum gangsawref29_Cut.x19 trivial ⟨ks_geq false (decide_eq_false h1), trivial⟩ trivial rfl rfl w
def gangsawref29_others.f (a0_0 : Int) (a0_1 : Int) (a0_2 : Int) (a0_3 : Int) (a0_4 : Int) (a0_5 : Int) (a1 : Int) : Option (Int × Int) :=
  if a1 = 0 then (some (mn (wrap64 (a0_4 - a0_1)) (wrap64 (a0_5 - a0_2)), mx (wrap64 (a0_4 - a0_1)) (wrap64 (a0_5 - a0_2)))) else (if a1 = 1 then (some (mn (wrap64 (a0_5 - a0_2)) (wrap64 (a0_3 - a0_0)), mx (wrap64 (a0_5 - a0_2)) (wrap64 (a0_3 - a0_0)))) else (if a1 = 2 then (some (mn (wrap64 (a0_3 - a0_0)) (wrap64 (a0_4 - a0_1)), mx (wrap64 (a0_3 - a0_0)) (wrap64 (a0_4 - a0_1)))) else (none)))
noncomputable def gangsawref29_others.run (r : Row) : Bool := saysV (xcall Try.prog 0 10000 (orcOf r.1 r.2.1 r.2.2.1) 40 0 (.fn 39) [.agg ⟨[sy 0, sy 1, sy 2, sy 3, sy 4, sy 5]⟩, sy 6] ⟨.leaf, 0⟩) r.2.2.2
def gangsawref29_others.r1 : Row := ([], [(.bi .max [3, 3], [sy 9, sy 7], sy 11), (.bi .min [3, 3], [sy 9, sy 7], sy 10), (.bin .sub 3 3, [sy 5, sy 2], sy 9), (.bin .sub 3 3, [sy 4, sy 1], sy 8), (.bin .sub 3 3, [sy 3, sy 0], sy 7), (.conc, [sy 6], .int .i64 1)], [], .tuple ⟨[sy 10, sy 11]⟩)
def gangsawref29_others.r2 : Row := ([], [(.bi .max [3, 3], [sy 7, sy 8], sy 11), (.bi .min [3, 3], [sy 7, sy 8], sy 10), (.bin .sub 3 3, [sy 5, sy 2], sy 9), (.bin .sub 3 3, [sy 4, sy 1], sy 8), (.bin .sub 3 3, [sy 3, sy 0], sy 7), (.conc, [sy 6], .int .i64 2)], [], .tuple ⟨[sy 10, sy 11]⟩)
set_option maxRecDepth 1000000 in
theorem gangsawref29_others.x2 : gangsawref29_others.run gangsawref29_others.r2 = true := by kernel_rfl
def gangsawref29_able.f (a0_0 : ByteArray) (a0_1 : Int) (a0_2 : Int) (a0_3 : Int) (a0_4 : Int) (a0_5 : Int) (a0_6 : Int) (a0_7 : Int) (a1_0 : Int) (a1_1 : Int) (a1_2 : Int) (a1_3 : Int) (a1_4 : Int) (a1_5 : Int) (a2 : Int) (a3 : Int) : Option (Int) :=
  if a2 = 0 then (if a3 = a0_6 then ((gangsawref29_sorted.f (wrap64 (a1_3 - a1_0)) (wrap64 (a1_4 - a1_1)) (wrap64 (a1_5 - a1_2))).bind fun ⟨t1, t2, t3⟩ => ((gangsawref29_sorted.f a0_2 a0_3 a0_4).bind fun ⟨t4, t5, t6⟩ => (if t1 > t4 then (some 6) else (if t2 > t5 then (some 6) else (if t3 > t6 then (some 6) else ((gangsawref29_others.f a1_0 a1_1 a1_2 a1_3 a1_4 a1_5 a2).bind fun ⟨t7, t8⟩ => (if t7 > a0_5 then (some 12) else (if a0_1 = 3 then (if wrap64 (a1_3 - a1_0) = t3 then (if t3 > a0_5 then (some 12) else (some 0)) else (some 0)) else (some 0))))))))) else (some 10)) else (if a2 = 1 then (if a3 = a0_6 then ((gangsawref29_sorted.f (wrap64 (a1_3 - a1_0)) (wrap64 (a1_4 - a1_1)) (wrap64 (a1_5 - a1_2))).bind fun ⟨t1, t2, t3⟩ => ((gangsawref29_sorted.f a0_2 a0_3 a0_4).bind fun ⟨t4, t5, t6⟩ => (if t1 > t4 then (some 6) else (if t2 > t5 then (some 6) else (if t3 > t6 then (some 6) else ((gangsawref29_others.f a1_0 a1_1 a1_2 a1_3 a1_4 a1_5 a2).bind fun ⟨t7, t8⟩ => (if t7 > a0_5 then (some 12) else (if a0_1 = 3 then (if wrap64 (a1_4 - a1_1) = t3 then (if t3 > a0_5 then (some 12) else (some 0)) else (some 0)) else (some 0))))))))) else (some 10)) else (if a2 = 2 then (if a3 = a0_6 then ((gangsawref29_sorted.f (wrap64 (a1_3 - a1_0)) (wrap64 (a1_4 - a1_1)) (wrap64 (a1_5 - a1_2))).bind fun ⟨t1, t2, t3⟩ => ((gangsawref29_sorted.f a0_2 a0_3 a0_4).bind fun ⟨t4, t5, t6⟩ => (if t1 > t4 then (some 6) else (if t2 > t5 then (some 6) else (if t3 > t6 then (some 6) else ((gangsawref29_others.f a1_0 a1_1 a1_2 a1_3 a1_4 a1_5 a2).bind fun ⟨t7, t8⟩ => (if t7 > a0_5 then (some 12) else (if a0_1 = 3 then (if wrap64 (a1_5 - a1_2) = t3 then (if t3 > a0_5 then (some 12) else (some 0)) else (some 0)) else (some 0))))))))) else (some 10)) else (none)))
noncomputable def gangsawref29_able.run (r : Row) : Bool := saysV (xcall Try.prog 0 10000 (orcOf r.1 r.2.1 r.2.2.1) 40 0 (.fn 33) [.agg ⟨[sy 0, sy 1, sy 2, sy 3, sy 4, sy 5, sy 6, sy 7]⟩, .agg ⟨[sy 8, sy 9, sy 10, sy 11, sy 12, sy 13]⟩, sy 14, sy 15] ⟨.leaf, 0⟩) r.2.2.2
def gangsawref29_able.r1 : Row := ([(53, [.agg ⟨[sy 2, sy 3, sy 4]⟩], .agg ⟨[sy 22, sy 23, sy 24]⟩), (53, [.agg ⟨[sy 16, sy 17, sy 18]⟩], .agg ⟨[sy 19, sy 20, sy 21]⟩)], [(.bin .gtr 3 3, [sy 20, sy 23], .bool true), (.bin .gtr 3 3, [sy 19, sy 22], .bool false), (.bin .sub 3 3, [sy 13, sy 10], sy 18), (.bin .sub 3 3, [sy 12, sy 9], sy 17), (.bin .sub 3 3, [sy 11, sy 8], sy 16), (.bin .neq 3 3, [sy 15, sy 6], .bool false), (.conc, [sy 14], .int .i64 0)], [], .int .i64 6)
def gangsawref29_able.r2 : Row := ([(53, [.agg ⟨[sy 2, sy 3, sy 4]⟩], .agg ⟨[sy 22, sy 23, sy 24]⟩), (53, [.agg ⟨[sy 16, sy 17, sy 18]⟩], .agg ⟨[sy 19, sy 20, sy 21]⟩)], [(.bin .gtr 3 3, [sy 21, sy 24], .bool true), (.bin .gtr 3 3, [sy 20, sy 23], .bool false), (.bin .gtr 3 3, [sy 19, sy 22], .bool false), (.bin .sub 3 3, [sy 13, sy 10], sy 18), (.bin .sub 3 3, [sy 12, sy 9], sy 17), (.bin .sub 3 3, [sy 11, sy 8], sy 16), (.bin .neq 3 3, [sy 15, sy 6], .bool false), (.conc, [sy 14], .int .i64 0)], [], .int .i64 6)
set_option maxRecDepth 1000000 in
theorem gangsawref29_able.x2 : gangsawref29_able.run gangsawref29_able.r2 = true := by kernel_rfl
def gangsawref29_able.r7 : Row := ([(39, [.agg ⟨[sy 8, sy 9, sy 10, sy 11, sy 12, sy 13]⟩, sy 14], .tuple ⟨[sy 25, sy 26]⟩), (53, [.agg ⟨[sy 2, sy 3, sy 4]⟩], .agg ⟨[sy 22, sy 23, sy 24]⟩), (53, [.agg ⟨[sy 16, sy 17, sy 18]⟩], .agg ⟨[sy 19, sy 20, sy 21]⟩)], [(.bin .eql 3 3, [sy 1, .int .i64 3], .bool false), (.bin .gtr 3 3, [sy 25, sy 5], .bool false), (.bin .gtr 3 3, [sy 21, sy 24], .bool false), (.bin .gtr 3 3, [sy 20, sy 23], .bool false), (.bin .gtr 3 3, [sy 19, sy 22], .bool false), (.bin .sub 3 3, [sy 13, sy 10], sy 18), (.bin .sub 3 3, [sy 12, sy 9], sy 17), (.bin .sub 3 3, [sy 11, sy 8], sy 16), (.bin .neq 3 3, [sy 15, sy 6], .bool false), (.conc, [sy 14], .int .i64 0)], [], .int .i64 0)
def gangsawref29_Area.f (a0_0 : Int) (a0_1 : Int) (a0_2 : Int) (a0_3 : Int) (a0_4 : Int) (a0_5 : Int) (a1 : Int) : Option (Int) :=
  (gangsawref29_others.f a0_0 a0_1 a0_2 a0_3 a0_4 a0_5 a1).bind fun ⟨t1, t2⟩ => (some (wrap64 (t1 * t2)))
noncomputable def gangsawref29_Area.run (r : Row) : Bool := saysV (xcall Try.prog 0 10000 (orcOf r.1 r.2.1 r.2.2.1) 40 0 (.fn 20) [.agg ⟨[sy 0, sy 1, sy 2, sy 3, sy 4, sy 5]⟩, sy 6] ⟨.leaf, 0⟩) r.2.2.2
def saw_boxed.f (a0_0 : Int) (a0_1 : Int) (a0_2 : Int) (a0_3 : Int) (a0_4 : Int) (a0_5 : Int) (a1 : Int) : Option (Int) :=
  if a0_0 < (-1000000) then (some 1) else (if a0_3 > 1000000 then (some 1) else (if a0_0 ≥ a0_3 then (some 1) else (if a0_1 < (-1000000) then (some 1) else (if a0_4 > 1000000 then (some 1) else (if a0_1 ≥ a0_4 then (some 1) else (if a0_2 < (-1000000) then (some 1) else (if a0_5 > 1000000 then (some 1) else (if a0_2 ≥ a0_5 then (some 1) else (if a1 < 0 then (some 1) else (if a1 > 2 then (some 1) else (some 0)))))))))))
noncomputable def saw_boxed.run (r : Row) : Bool := saysV (xcall Try.prog 0 10000 (orcOf r.1 r.2.1 r.2.2.1) 40 0 (.fn 37) [.agg ⟨[sy 0, sy 1, sy 2, sy 3, sy 4, sy 5]⟩, sy 6] ⟨.leaf, 0⟩) r.2.2.2
def saw_boxed.r0 : Row := ([], [(.bin .lss 3 3, [sy 0, .int .i64 (-1000000)], .bool true)], [], .int .i64 1)
set_option maxRecDepth 1000000 in
theorem saw_boxed.x0 : saw_boxed.run saw_boxed.r0 = true := by kernel_rfl
def saw_boxed.r1 : Row := ([], [(.bin .gtr 3 3, [sy 3, .int .i64 1000000], .bool true), (.bin .lss 3 3, [sy 0, .int .i64 (-1000000)], .bool false)], [], .int .i64 1)
set_option maxRecDepth 1000000 in
theorem saw_boxed.x1 : saw_boxed.run saw_boxed.r1 = true := by kernel_rfl
def saw_boxed.r2 : Row := ([], [(.bin .geq 3 3, [sy 0, sy 3], .bool true), (.bin .gtr 3 3, [sy 3, .int .i64 1000000], .bool false), (.bin .lss 3 3, [sy 0, .int .i64 (-1000000)], .bool false)], [], .int .i64 1)
set_option maxRecDepth 1000000 in
theorem saw_boxed.x2 : saw_boxed.run saw_boxed.r2 = true := by kernel_rfl
def saw_boxed.r3 : Row := ([], [(.bin .lss 3 3, [sy 1, .int .i64 (-1000000)], .bool true), (.bin .geq 3 3, [sy 0, sy 3], .bool false), (.bin .gtr 3 3, [sy 3, .int .i64 1000000], .bool false), (.bin .lss 3 3, [sy 0, .int .i64 (-1000000)], .bool false)], [], .int .i64 1)
set_option maxRecDepth 1000000 in
theorem saw_boxed.x3 : saw_boxed.run saw_boxed.r3 = true := by kernel_rfl
def saw_boxed.r4 : Row := ([], [(.bin .gtr 3 3, [sy 4, .int .i64 1000000], .bool true), (.bin .lss 3 3, [sy 1, .int .i64 (-1000000)], .bool false), (.bin .geq 3 3, [sy 0, sy 3], .bool false), (.bin .gtr 3 3, [sy 3, .int .i64 1000000], .bool false), (.bin .lss 3 3, [sy 0, .int .i64 (-1000000)], .bool false)], [], .int .i64 1)
set_option maxRecDepth 1000000 in
theorem saw_boxed.x4 : saw_boxed.run saw_boxed.r4 = true := by kernel_rfl
def saw_boxed.r5 : Row := ([], [(.bin .geq 3 3, [sy 1, sy 4], .bool true), (.bin .gtr 3 3, [sy 4, .int .i64 1000000], .bool false), (.bin .lss 3 3, [sy 1, .int .i64 (-1000000)], .bool false), (.bin .geq 3 3, [sy 0, sy 3], .bool false), (.bin .gtr 3 3, [sy 3, .int .i64 1000000], .bool false), (.bin .lss 3 3, [sy 0, .int .i64 (-1000000)], .bool false)], [], .int .i64 1)
set_option maxRecDepth 1000000 in
theorem saw_boxed.x5 : saw_boxed.run saw_boxed.r5 = true := by kernel_rfl
def saw_boxed.r6 : Row := ([], [(.bin .lss 3 3, [sy 2, .int .i64 (-1000000)], .bool true), (.bin .geq 3 3, [sy 1, sy 4], .bool false), (.bin .gtr 3 3, [sy 4, .int .i64 1000000], .bool false), (.bin .lss 3 3, [sy 1, .int .i64 (-1000000)], .bool false), (.bin .geq 3 3, [sy 0, sy 3], .bool false), (.bin .gtr 3 3, [sy 3, .int .i64 1000000], .bool false), (.bin .lss 3 3, [sy 0, .int .i64 (-1000000)], .bool false)], [], .int .i64 1)
set_option maxRecDepth 1000000 in
theorem saw_boxed.x6 : saw_boxed.run saw_boxed.r6 = true := by kernel_rfl
def saw_boxed.r7 : Row := ([], [(.bin .gtr 3 3, [sy 5, .int .i64 1000000], .bool true), (.bin .lss 3 3, [sy 2, .int .i64 (-1000000)], .bool false), (.bin .geq 3 3, [sy 1, sy 4], .bool false), (.bin .gtr 3 3, [sy 4, .int .i64 1000000], .bool false), (.bin .lss 3 3, [sy 1, .int .i64 (-1000000)], .bool false), (.bin .geq 3 3, [sy 0, sy 3], .bool false), (.bin .gtr 3 3, [sy 3, .int .i64 1000000], .bool false), (.bin .lss 3 3, [sy 0, .int .i64 (-1000000)], .bool false)], [], .int .i64 1)
set_option maxRecDepth 1000000 in
theorem saw_boxed.x7 : saw_boxed.run saw_boxed.r7 = true := by kernel_rfl
def saw_boxed.r8 : Row := ([], [(.bin .geq 3 3, [sy 2, sy 5], .bool true), (.bin .gtr 3 3, [sy 5, .int .i64 1000000], .bool false), (.bin .lss 3 3, [sy 2, .int .i64 (-1000000)], .bool false), (.bin .geq 3 3, [sy 1, sy 4], .bool false), (.bin .gtr 3 3, [sy 4, .int .i64 1000000], .bool false), (.bin .lss 3 3, [sy 1, .int .i64 (-1000000)], .bool false), (.bin .geq 3 3, [sy 0, sy 3], .bool false), (.bin .gtr 3 3, [sy 3, .int .i64 1000000], .bool false), (.bin .lss 3 3, [sy 0, .int .i64 (-1000000)], .bool false)], [], .int .i64 1)
set_option maxRecDepth 1000000 in
theorem saw_boxed.x8 : saw_boxed.run saw_boxed.r8 = true := by kernel_rfl
def saw_boxed.r9 : Row := ([], [(.bin .lss 3 3, [sy 6, .int .i64 0], .bool true), (.bin .geq 3 3, [sy 2, sy 5], .bool false), (.bin .gtr 3 3, [sy 5, .int .i64 1000000], .bool false), (.bin .lss 3 3, [sy 2, .int .i64 (-1000000)], .bool false), (.bin .geq 3 3, [sy 1, sy 4], .bool false), (.bin .gtr 3 3, [sy 4, .int .i64 1000000], .bool false), (.bin .lss 3 3, [sy 1, .int .i64 (-1000000)], .bool false), (.bin .geq 3 3, [sy 0, sy 3], .bool false), (.bin .gtr 3 3, [sy 3, .int .i64 1000000], .bool false), (.bin .lss 3 3, [sy 0, .int .i64 (-1000000)], .bool false)], [], .int .i64 1)
set_option maxRecDepth 1000000 in
theorem saw_boxed.x9 : saw_boxed.run saw_boxed.r9 = true := by kernel_rfl
def saw_boxed.r10 : Row := ([], [(.bin .gtr 3 3, [sy 6, .int .i64 2], .bool true), (.bin .lss 3 3, [sy 6, .int .i64 0], .bool false), (.bin .geq 3 3, [sy 2, sy 5], .bool false), (.bin .gtr 3 3, [sy 5, .int .i64 1000000], .bool false), (.bin .lss 3 3, [sy 2, .int .i64 (-1000000)], .bool false), (.bin .geq 3 3, [sy 1, sy 4], .bool false), (.bin .gtr 3 3, [sy 4, .int .i64 1000000], .bool false), (.bin .lss 3 3, [sy 1, .int .i64 (-1000000)], .bool false), (.bin .geq 3 3, [sy 0, sy 3], .bool false), (.bin .gtr 3 3, [sy 3, .int .i64 1000000], .bool false), (.bin .lss 3 3, [sy 0, .int .i64 (-1000000)], .bool false)], [], .int .i64 1)
set_option maxRecDepth 1000000 in
theorem saw_boxed.x10 : saw_boxed.run saw_boxed.r10 = true := by kernel_rfl
def saw_boxed.r11 : Row := ([], [(.bin .gtr 3 3, [sy 6, .int .i64 2], .bool false), (.bin .lss 3 3, [sy 6, .int .i64 0], .bool false), (.bin .geq 3 3, [sy 2, sy 5], .bool false), (.bin .gtr 3 3, [sy 5, .int .i64 1000000], .bool false), (.bin .lss 3 3, [sy 2, .int .i64 (-1000000)], .bool false), (.bin .geq 3 3, [sy 1, sy 4], .bool false), (.bin .gtr 3 3, [sy 4, .int .i64 1000000], .bool false), (.bin .lss 3 3, [sy 1, .int .i64 (-1000000)], .bool false), (.bin .geq 3 3, [sy 0, sy 3], .bool false), (.bin .gtr 3 3, [sy 3, .int .i64 1000000], .bool false), (.bin .lss 3 3, [sy 0, .int .i64 (-1000000)], .bool false)], [], .int .i64 0)
set_option maxRecDepth 1000000 in
theorem saw_boxed.x11 : saw_boxed.run saw_boxed.r11 = true := by kernel_rfl
theorem saw_boxed.calls (a0_0 : Int) (a0_1 : Int) (a0_2 : Int) (a0_3 : Int) (a0_4 : Int) (a0_5 : Int) (a1 : Int) (r : Int) (w : World) (h : saw_boxed.f a0_0 a0_1 a0_2 a0_3 a0_4 a0_5 a1 = some r) : Calls Try.prog 37 #[.agg #[.int .i64 a0_0, .int .i64 a0_1, .int .i64 a0_2, .int .i64 a0_3, .int .i64 a0_4, .int .i64 a0_5], .int .i64 a1] w fun e w' => e = .returned (.int .i64 r) ∧ Below w.heap.size w w' := by
  unfold saw_boxed.f at h
  by_cases h1 : a0_0 < (-1000000)
  · rw [if_pos h1] at h
    obtain rfl := Option.some.inj h
    letI : Syms := symsOf [.int .i64 a0_0, .int .i64 a0_1, .int .i64 a0_2, .int .i64 a0_3, .int .i64 a0_4, .int .i64 a0_5, .int .i64 a1] rfl
    exact run_leaf (r := saw_boxed.r0) follows noNum saw_boxed.x0 trivial ⟨ks_lss true (decide_eq_true h1), trivial⟩ trivial rfl rfl w
  · rw [if_neg h1] at h
    by_cases h2 : a0_3 > 1000000
    · rw [if_pos h2] at h
      obtain rfl := Option.some.inj h
      letI : Syms := symsOf [.int .i64 a0_0, .int .i64 a0_1, .int .i64 a0_2, .int .i64 a0_3, .int .i64 a0_4, .int .i64 a0_5, .int .i64 a1] rfl
      exact run_leaf (r := saw_boxed.r1) follows noNum saw_boxed.x1 trivial ⟨ks_gtr true (decide_eq_true h2), ks_lss false (decide_eq_false h1), trivial⟩ trivial rfl rfl w
    · rw [if_neg h2] at h
      by_cases h3 : a0_0 ≥ a0_3
      · rw [if_pos h3] at h
        obtain rfl := Option.some.inj h
        letI : Syms := symsOf [.int .i64 a0_0, .int .i64 a0_1, .int .i64 a0_2, .int .i64 a0_3, .int .i64 a0_4, .int .i64 a0_5, .int .i64 a1] rfl
        exact run_leaf (r := saw_boxed.r2) follows noNum saw_boxed.x2 trivial ⟨ks_geq true (decide_eq_true h3), ks_gtr false (decide_eq_false h2), ks_lss false (decide_eq_false h1), trivial⟩ trivial rfl rfl w
      · rw [if_neg h3] at h
        by_cases h4 : a0_1 < (-1000000)
        · rw [if_pos h4] at h
          obtain rfl := Option.some.inj h
          letI : Syms := symsOf [.int .i64 a0_0, .int .i64 a0_1, .int .i64 a0_2, .int .i64 a0_3, .int .i64 a0_4, .int .i64 a0_5, .int .i64 a1] rfl
          exact run_leaf (r := saw_boxed.r3) follows noNum saw_boxed.x3 trivial ⟨ks_lss true (decide_eq_true h4), ks_geq false (decide_eq_false h3), ks_gtr false (decide_eq_false h2), ks_lss false (decide_eq_false h1), trivial⟩ trivial rfl rfl w
        · rw [if_neg h4] at h
          by_cases h5 : a0_4 > 1000000
          · rw [if_pos h5] at h
            obtain rfl := Option.some.inj h
            letI : Syms := symsOf [.int .i64 a0_0, .int .i64 a0_1, .int .i64 a0_2, .int .i64 a0_3, .int .i64 a0_4, .int .i64 a0_5, .int .i64 a1] rfl
            exact run_leaf (r := saw_boxed.r4) follows noNum saw_boxed.x4 trivial ⟨ks_gtr true (decide_eq_true h5), ks_lss false (decide_eq_false h4), ks_geq false (decide_eq_false h3), ks_gtr false (decide_eq_false h2), ks_lss false (decide_eq_false h1), trivial⟩ trivial rfl rfl w
          · rw [if_neg h5] at h
            by_cases h6 : a0_1 ≥ a0_4
            · rw [if_pos h6] at h
              obtain rfl := Option.some.inj h
              letI : Syms := symsOf [.int .i64 a0_0, .int .i64 a0_1, .int .i64 a0_2, .int .i64 a0_3, .int .i64 a0_4, .int .i64 a0_5, .int .i64 a1] rfl
              exact run_leaf (r := saw_boxed.r5) follows noNum saw_boxed.x5 trivial ⟨ks_geq true (decide_eq_true h6), ks_gtr false (decide_eq_false h5), ks_lss false (decide_eq_false h4), ks_geq false (decide_eq_false h3), ks_gtr false (decide_eq_false h2), ks_lss false (decide_eq_false h1), trivial⟩ trivial rfl rfl w
            · rw [if_neg h6] at h
              by_cases h7 : a0_2 < (-1000000)
              · rw [if_pos h7] at h
                obtain rfl := Option.some.inj h
                letI : Syms := symsOf [.int .i64 a0_0, .int .i64 a0_1, .int .i64 a0_2, .int .i64 a0_3, .int .i64 a0_4, .int .i64 a0_5, .int .i64 a1] rfl
                exact run_leaf (r := saw_boxed.r6) follows noNum saw_boxed.x6 trivial ⟨ks_lss true (decide_eq_true h7), ks_geq false (decide_eq_false h6), ks_gtr false (decide_eq_false h5), ks_lss false (decide_eq_false h4), ks_geq false (decide_eq_false h3), ks_gtr false (decide_eq_false h2), ks_lss false (decide_eq_false h1), trivial⟩ trivial rfl rfl w
              · rw [if_neg h7] at h
                by_cases h8 : a0_5 > 1000000
                · rw [if_pos h8] at h
                  obtain rfl := Option.some.inj h
                  letI : Syms := symsOf [.int .i64 a0_0, .int .i64 a0_1, .int .i64 a0_2, .int .i64 a0_3, .int .i64 a0_4, .int .i64 a0_5, .int .i64 a1] rfl
                  exact run_leaf (r := saw_boxed.r7) follows noNum saw_boxed.x7 trivial ⟨ks_gtr true (decide_eq_true h8), ks_lss false (decide_eq_false h7), ks_geq false (decide_eq_false h6), ks_gtr false (decide_eq_false h5), ks_lss false (decide_eq_false h4), ks_geq false (decide_eq_false h3), ks_gtr false (decide_eq_false h2), ks_lss false (decide_eq_false h1), trivial⟩ trivial rfl rfl w
                · rw [if_neg h8] at h
                  by_cases h9 : a0_2 ≥ a0_5
                  · rw [if_pos h9] at h
                    obtain rfl := Option.some.inj h
                    letI : Syms := symsOf [.int .i64 a0_0, .int .i64 a0_1, .int .i64 a0_2, .int .i64 a0_3, .int .i64 a0_4, .int .i64 a0_5, .int .i64 a1] rfl
                    exact run_leaf (r := saw_boxed.r8) follows noNum saw_boxed.x8 trivial ⟨ks_geq true (decide_eq_true h9), ks_gtr false (decide_eq_false h8), ks_lss false (decide_eq_false h7), ks_geq false (decide_eq_false h6), ks_gtr false (decide_eq_false h5), ks_lss false (decide_eq_false h4), ks_geq false (decide_eq_false h3), ks_gtr false (decide_eq_false h2), ks_lss false (decide_eq_false h1), trivial⟩ trivial rfl rfl w
                  · rw [if_neg h9] at h
                    by_cases h10 : a1 < 0
                    · rw [if_pos h10] at h
                      obtain rfl := Option.some.inj h
                      letI : Syms := symsOf [.int .i64 a0_0, .int .i64 a0_1, .int .i64 a0_2, .int .i64 a0_3, .int .i64 a0_4, .int .i64 a0_5, .int .i64 a1] rfl
                      exact run_leaf (r := saw_boxed.r9) follows noNum saw_boxed.x9 trivial ⟨ks_lss true (decide_eq_true h10), ks_geq false (decide_eq_false h9), ks_gtr false (decide_eq_false h8), ks_lss false (decide_eq_false h7), ks_geq false (decide_eq_false h6), ks_gtr false (decide_eq_false h5), ks_lss false (decide_eq_false h4), ks_geq false (decide_eq_false h3), ks_gtr false (decide_eq_false h2), ks_lss false (decide_eq_false h1), trivial⟩ trivial rfl rfl w
                    · rw [if_neg h10] at h
                      by_cases h11 : a1 > 2
                      · rw [if_pos h11] at h
                        obtain rfl := Option.some.inj h
                        letI : Syms := symsOf [.int .i64 a0_0, .int .i64 a0_1, .int .i64 a0_2, .int .i64 a0_3, .int .i64 a0_4, .int .i64 a0_5, .int .i64 a1] rfl
                        exact run_leaf (r := saw_boxed.r10) follows noNum saw_boxed.x10 trivial ⟨ks_gtr true (decide_eq_true h11), ks_lss false (decide_eq_false h10), ks_geq false (decide_eq_false h9), ks_gtr false (decide_eq_false h8), ks_lss false (decide_eq_false h7), ks_geq false (decide_eq_false h6), ks_gtr false (decide_eq_false h5), ks_lss false (decide_eq_false h4), ks_geq false (decide_eq_false h3), ks_gtr false (decide_eq_false h2), ks_lss false (decide_eq_false h1), trivial⟩ trivial rfl rfl w
                      · rw [if_neg h11] at h
                        obtain rfl := Option.some.inj h
                        letI : Syms := symsOf [.int .i64 a0_0, .int .i64 a0_1, .int .i64 a0_2, .int .i64 a0_3, .int .i64 a0_4, .int .i64 a0_5, .int .i64 a1] rfl
                        exact run_leaf (r := saw_boxed.r11) follows noNum saw_boxed.x11 trivial ⟨ks_gtr false (decide_eq_false h11), ks_lss false (decide_eq_false h10), ks_geq false (decide_eq_false h9), ks_gtr false (decide_eq_false h8), ks_lss false (decide_eq_false h7), ks_geq false (decide_eq_false h6), ks_gtr false (decide_eq_false h5), ks_lss false (decide_eq_false h4), ks_geq false (decide_eq_false h3), ks_gtr false (decide_eq_false h2), ks_lss false (decide_eq_false h1), trivial⟩ trivial rfl rfl w
def saw_area.f (a0_0 : Int) (a0_1 : Int) (a0_2 : Int) (a0_3 : Int) (a0_4 : Int) (a0_5 : Int) (a1 : Int) : Option (Int) :=
  if a1 = 0 then (some (wrap64 ((wrap64 (a0_4 - a0_1)) * (wrap64 (a0_5 - a0_2))))) else (if a1 = 1 then (some (wrap64 ((wrap64 (a0_5 - a0_2)) * (wrap64 (a0_3 - a0_0))))) else (if a1 = 2 then (some (wrap64 ((wrap64 (a0_3 - a0_0)) * (wrap64 (a0_4 - a0_1))))) else (none)))
noncomputable def saw_area.run (r : Row) : Bool := saysV (xcall Try.prog 0 10000 (orcOf r.1 r.2.1 r.2.2.1) 40 0 (.fn 38) [.agg ⟨[sy 0, sy 1, sy 2, sy 3, sy 4, sy 5]⟩, sy 6] ⟨.leaf, 0⟩) r.2.2.2
def saw_area.r0 : Row := ([], [(.bin .mul 2 2, [sy 8, sy 9], sy 10), (.bin .sub 3 3, [sy 5, sy 2], sy 9), (.bin .sub 3 3, [sy 4, sy 1], sy 8), (.bin .sub 3 3, [sy 3, sy 0], sy 7), (.conc, [sy 6], .int .i64 0)], [], sy 10)
set_option maxRecDepth 1000000 in
theorem saw_area.x0 : saw_area.run saw_area.r0 = true := by kernel_rfl
def saw_area.r1 : Row := ([], [(.bin .mul 2 2, [sy 9, sy 7], sy 10), (.bin .sub 3 3, [sy 5, sy 2], sy 9), (.bin .sub 3 3, [sy 4, sy 1], sy 8), (.bin .sub 3 3, [sy 3, sy 0], sy 7), (.conc, [sy 6], .int .i64 1)], [], sy 10)
set_option maxRecDepth 1000000 in
theorem saw_area.x1 : saw_area.run saw_area.r1 = true := by kernel_rfl
def saw_area.r2 : Row := ([], [(.bin .mul 2 2, [sy 7, sy 8], sy 10), (.bin .sub 3 3, [sy 5, sy 2], sy 9), (.bin .sub 3 3, [sy 4, sy 1], sy 8), (.bin .sub 3 3, [sy 3, sy 0], sy 7), (.conc, [sy 6], .int .i64 2)], [], sy 10)
set_option maxRecDepth 1000000 in
theorem saw_area.x2 : saw_area.run saw_area.r2 = true := by kernel_rfl
theorem saw_area.calls (a0_0 : Int) (a0_1 : Int) (a0_2 : Int) (a0_3 : Int) (a0_4 : Int) (a0_5 : Int) (a1 : Int) (r : Int) (w : World) (h : saw_area.f a0_0 a0_1 a0_2 a0_3 a0_4 a0_5 a1 = some r) : Calls Try.prog 38 #[.agg #[.int .i64 a0_0, .int .i64 a0_1, .int .i64 a0_2, .int .i64 a0_3, .int .i64 a0_4, .int .i64 a0_5], .int .i64 a1] w fun e w' => e = .returned (.int .i64 r) ∧ Below w.heap.size w w' := by
  unfold saw_area.f at h
  by_cases h1 : a1 = 0
  · rw [if_pos h1] at h
    obtain rfl := Option.some.inj h
    letI : Syms := symsOf [.int .i64 a0_0, .int .i64 a0_1, .int .i64 a0_2, .int .i64 a0_3, .int .i64 a0_4, .int .i64 a0_5, .int .i64 a1, .int .i64 (wrap64 (a0_3 - a0_0)), .int .i64 (wrap64 (a0_4 - a0_1)), .int .i64 (wrap64 (a0_5 - a0_2)), .int .i64 (wrap64 ((wrap64 (a0_4 - a0_1)) * (wrap64 (a0_5 - a0_2))))] rfl
    exact run_leaf (r := saw_area.r0) follows noNum saw_area.x0 trivial ⟨ks_mul64, ks_sub64, ks_sub64, ks_sub64, ks_conc (congrArg (Value.int .i64) h1), trivial⟩ trivial rfl rfl w
  · rw [if_neg h1] at h
    by_cases h2 : a1 = 1
    · rw [if_pos h2] at h
      obtain rfl := Option.some.inj h
      letI : Syms := symsOf [.int .i64 a0_0, .int .i64 a0_1, .int .i64 a0_2, .int .i64 a0_3, .int .i64 a0_4, .int .i64 a0_5, .int .i64 a1, .int .i64 (wrap64 (a0_3 - a0_0)), .int .i64 (wrap64 (a0_4 - a0_1)), .int .i64 (wrap64 (a0_5 - a0_2)), .int .i64 (wrap64 ((wrap64 (a0_5 - a0_2)) * (wrap64 (a0_3 - a0_0))))] rfl
      exact run_leaf (r := saw_area.r1) follows noNum saw_area.x1 trivial ⟨ks_mul64, ks_sub64, ks_sub64, ks_sub64, ks_conc (congrArg (Value.int .i64) h2), trivial⟩ trivial rfl rfl w
    · rw [if_neg h2] at h
      by_cases h3 : a1 = 2
      · rw [if_pos h3] at h
        obtain rfl := Option.some.inj h
        letI : Syms := symsOf [.int .i64 a0_0, .int .i64 a0_1, .int .i64 a0_2, .int .i64 a0_3, .int .i64 a0_4, .int .i64 a0_5, .int .i64 a1, .int .i64 (wrap64 (a0_3 - a0_0)), .int .i64 (wrap64 (a0_4 - a0_1)), .int .i64 (wrap64 (a0_5 - a0_2)), .int .i64 (wrap64 ((wrap64 (a0_3 - a0_0)) * (wrap64 (a0_4 - a0_1))))] rfl
        exact run_leaf (r := saw_area.r2) follows noNum saw_area.x2 trivial ⟨ks_mul64, ks_sub64, ks_sub64, ks_sub64, ks_conc (congrArg (Value.int .i64) h3), trivial⟩ trivial rfl rfl w
      · rw [if_neg h3] at h
        cases h
def saw_can.f (a0_0 : ByteArray) (a0_1 : Int) (a0_2 : Int) (a0_3 : Int) (a0_4 : Int) (a0_5 : Int) (a0_6 : Int) (a0_7 : Int) (a1_0 : Int) (a1_1 : Int) (a1_2 : Int) (a1_3 : Int) (a1_4 : Int) (a1_5 : Int) (a2 : Int) (a3 : Int) : Option (Int) :=
  if a2 = 0 then (if a0_6 = a3 then (if (sort3.f (wrap64 (a1_3 - a1_0)) (wrap64 (a1_4 - a1_1)) (wrap64 (a1_5 - a1_2))).1 > (sort3.f a0_2 a0_3 a0_4).1 then (some 6) else (if (sort3.f (wrap64 (a1_3 - a1_0)) (wrap64 (a1_4 - a1_1)) (wrap64 (a1_5 - a1_2))).2.1 > (sort3.f a0_2 a0_3 a0_4).2.1 then (some 6) else (if (sort3.f (wrap64 (a1_3 - a1_0)) (wrap64 (a1_4 - a1_1)) (wrap64 (a1_5 - a1_2))).2.2 > (sort3.f a0_2 a0_3 a0_4).2.2 then (some 6) else (if mn (wrap64 (a1_4 - a1_1)) (wrap64 (a1_5 - a1_2)) > a0_5 then (some 12) else (if a0_1 = 3 then (if wrap64 (a1_3 - a1_0) = (sort3.f (wrap64 (a1_3 - a1_0)) (wrap64 (a1_4 - a1_1)) (wrap64 (a1_5 - a1_2))).2.2 then (if (sort3.f (wrap64 (a1_3 - a1_0)) (wrap64 (a1_4 - a1_1)) (wrap64 (a1_5 - a1_2))).2.2 > a0_5 then (some 12) else (some 0)) else (some 0)) else (some 0)))))) else (some 10)) else (if a2 = 1 then (if a0_6 = a3 then (if (sort3.f (wrap64 (a1_3 - a1_0)) (wrap64 (a1_4 - a1_1)) (wrap64 (a1_5 - a1_2))).1 > (sort3.f a0_2 a0_3 a0_4).1 then (some 6) else (if (sort3.f (wrap64 (a1_3 - a1_0)) (wrap64 (a1_4 - a1_1)) (wrap64 (a1_5 - a1_2))).2.1 > (sort3.f a0_2 a0_3 a0_4).2.1 then (some 6) else (if (sort3.f (wrap64 (a1_3 - a1_0)) (wrap64 (a1_4 - a1_1)) (wrap64 (a1_5 - a1_2))).2.2 > (sort3.f a0_2 a0_3 a0_4).2.2 then (some 6) else (if mn (wrap64 (a1_5 - a1_2)) (wrap64 (a1_3 - a1_0)) > a0_5 then (some 12) else (if a0_1 = 3 then (if wrap64 (a1_4 - a1_1) = (sort3.f (wrap64 (a1_3 - a1_0)) (wrap64 (a1_4 - a1_1)) (wrap64 (a1_5 - a1_2))).2.2 then (if (sort3.f (wrap64 (a1_3 - a1_0)) (wrap64 (a1_4 - a1_1)) (wrap64 (a1_5 - a1_2))).2.2 > a0_5 then (some 12) else (some 0)) else (some 0)) else (some 0)))))) else (some 10)) else (if a2 = 2 then (if a0_6 = a3 then (if (sort3.f (wrap64 (a1_3 - a1_0)) (wrap64 (a1_4 - a1_1)) (wrap64 (a1_5 - a1_2))).1 > (sort3.f a0_2 a0_3 a0_4).1 then (some 6) else (if (sort3.f (wrap64 (a1_3 - a1_0)) (wrap64 (a1_4 - a1_1)) (wrap64 (a1_5 - a1_2))).2.1 > (sort3.f a0_2 a0_3 a0_4).2.1 then (some 6) else (if (sort3.f (wrap64 (a1_3 - a1_0)) (wrap64 (a1_4 - a1_1)) (wrap64 (a1_5 - a1_2))).2.2 > (sort3.f a0_2 a0_3 a0_4).2.2 then (some 6) else (if mn (wrap64 (a1_3 - a1_0)) (wrap64 (a1_4 - a1_1)) > a0_5 then (some 12) else (if a0_1 = 3 then (if wrap64 (a1_5 - a1_2) = (sort3.f (wrap64 (a1_3 - a1_0)) (wrap64 (a1_4 - a1_1)) (wrap64 (a1_5 - a1_2))).2.2 then (if (sort3.f (wrap64 (a1_3 - a1_0)) (wrap64 (a1_4 - a1_1)) (wrap64 (a1_5 - a1_2))).2.2 > a0_5 then (some 12) else (some 0)) else (some 0)) else (some 0)))))) else (some 10)) else (none)))
noncomputable def saw_can.run (r : Row) : Bool := saysV (xcall Try.prog 0 10000 (orcOf r.1 r.2.1 r.2.2.1) 40 0 (.fn 36) [.agg ⟨[sy 0, sy 1, sy 2, sy 3, sy 4, sy 5, sy 6, sy 7]⟩, .agg ⟨[sy 8, sy 9, sy 10, sy 11, sy 12, sy 13]⟩, sy 14, sy 15] ⟨.leaf, 0⟩) r.2.2.2
def saw_can.r0 : Row := ([], [(.bin .gtr 3 3, [sy 19, sy 22], .bool true), (.bin .sub 3 3, [sy 13, sy 10], sy 18), (.bin .sub 3 3, [sy 12, sy 9], sy 17), (.bin .sub 3 3, [sy 11, sy 8], sy 16), (.bin .neq 3 3, [sy 6, sy 15], .bool false), (.conc, [sy 14], .int .i64 0)], [(56, [sy 2, sy 3, sy 4], [sy 22, sy 23, sy 24]), (56, [sy 16, sy 17, sy 18], [sy 19, sy 20, sy 21])], .int .i64 6)
set_option maxRecDepth 1000000 in
theorem saw_can.x0 : saw_can.run saw_can.r0 = true := by kernel_rfl
def saw_can.r1 : Row := ([], [(.bin .gtr 3 3, [sy 20, sy 23], .bool true), (.bin .gtr 3 3, [sy 19, sy 22], .bool false), (.bin .sub 3 3, [sy 13, sy 10], sy 18), (.bin .sub 3 3, [sy 12, sy 9], sy 17), (.bin .sub 3 3, [sy 11, sy 8], sy 16), (.bin .neq 3 3, [sy 6, sy 15], .bool false), (.conc, [sy 14], .int .i64 0)], [(56, [sy 2, sy 3, sy 4], [sy 22, sy 23, sy 24]), (56, [sy 16, sy 17, sy 18], [sy 19, sy 20, sy 21])], .int .i64 6)
set_option maxRecDepth 1000000 in
theorem saw_can.x1 : saw_can.run saw_can.r1 = true := by kernel_rfl
def saw_can.r2 : Row := ([], [(.bin .gtr 3 3, [sy 21, sy 24], .bool true), (.bin .gtr 3 3, [sy 20, sy 23], .bool false), (.bin .gtr 3 3, [sy 19, sy 22], .bool false), (.bin .sub 3 3, [sy 13, sy 10], sy 18), (.bin .sub 3 3, [sy 12, sy 9], sy 17), (.bin .sub 3 3, [sy 11, sy 8], sy 16), (.bin .neq 3 3, [sy 6, sy 15], .bool false), (.conc, [sy 14], .int .i64 0)], [(56, [sy 2, sy 3, sy 4], [sy 22, sy 23, sy 24]), (56, [sy 16, sy 17, sy 18], [sy 19, sy 20, sy 21])], .int .i64 6)
set_option maxRecDepth 1000000 in
theorem saw_can.x2 : saw_can.run saw_can.r2 = true := by kernel_rfl
def saw_can.r3 : Row := ([], [(.bin .gtr 3 3, [sy 25, sy 5], .bool true), (.bi .min [3, 3], [sy 17, sy 18], sy 25), (.bin .gtr 3 3, [sy 21, sy 24], .bool false), (.bin .gtr 3 3, [sy 20, sy 23], .bool false), (.bin .gtr 3 3, [sy 19, sy 22], .bool false), (.bin .sub 3 3, [sy 13, sy 10], sy 18), (.bin .sub 3 3, [sy 12, sy 9], sy 17), (.bin .sub 3 3, [sy 11, sy 8], sy 16), (.bin .neq 3 3, [sy 6, sy 15], .bool false), (.conc, [sy 14], .int .i64 0)], [(56, [sy 2, sy 3, sy 4], [sy 22, sy 23, sy 24]), (56, [sy 16, sy 17, sy 18], [sy 19, sy 20, sy 21])], .int .i64 12)
set_option maxRecDepth 1000000 in
theorem saw_can.x3 : saw_can.run saw_can.r3 = true := by kernel_rfl
def saw_can.r4 : Row := ([], [(.bin .gtr 3 3, [sy 21, sy 5], .bool true), (.bin .eql 3 3, [sy 16, sy 21], .bool true), (.bin .eql 3 3, [sy 1, .int .i64 3], .bool true), (.bin .gtr 3 3, [sy 25, sy 5], .bool false), (.bi .min [3, 3], [sy 17, sy 18], sy 25), (.bin .gtr 3 3, [sy 21, sy 24], .bool false), (.bin .gtr 3 3, [sy 20, sy 23], .bool false), (.bin .gtr 3 3, [sy 19, sy 22], .bool false), (.bin .sub 3 3, [sy 13, sy 10], sy 18), (.bin .sub 3 3, [sy 12, sy 9], sy 17), (.bin .sub 3 3, [sy 11, sy 8], sy 16), (.bin .neq 3 3, [sy 6, sy 15], .bool false), (.conc, [sy 14], .int .i64 0)], [(56, [sy 2, sy 3, sy 4], [sy 22, sy 23, sy 24]), (56, [sy 16, sy 17, sy 18], [sy 19, sy 20, sy 21])], .int .i64 12)
set_option maxRecDepth 1000000 in
theorem saw_can.x4 : saw_can.run saw_can.r4 = true := by kernel_rfl
def saw_can.r5 : Row := ([], [(.bin .gtr 3 3, [sy 21, sy 5], .bool false), (.bin .eql 3 3, [sy 16, sy 21], .bool true), (.bin .eql 3 3, [sy 1, .int .i64 3], .bool true), (.bin .gtr 3 3, [sy 25, sy 5], .bool false), (.bi .min [3, 3], [sy 17, sy 18], sy 25), (.bin .gtr 3 3, [sy 21, sy 24], .bool false), (.bin .gtr 3 3, [sy 20, sy 23], .bool false), (.bin .gtr 3 3, [sy 19, sy 22], .bool false), (.bin .sub 3 3, [sy 13, sy 10], sy 18), (.bin .sub 3 3, [sy 12, sy 9], sy 17), (.bin .sub 3 3, [sy 11, sy 8], sy 16), (.bin .neq 3 3, [sy 6, sy 15], .bool false), (.conc, [sy 14], .int .i64 0)], [(56, [sy 2, sy 3, sy 4], [sy 22, sy 23, sy 24]), (56, [sy 16, sy 17, sy 18], [sy 19, sy 20, sy 21])], .int .i64 0)
set_option maxRecDepth 1000000 in
theorem saw_can.x5 : saw_can.run saw_can.r5 = true := by kernel_rfl
def saw_can.r6 : Row := ([], [(.bin .eql 3 3, [sy 16, sy 21], .bool false), (.bin .eql 3 3, [sy 1, .int .i64 3], .bool true), (.bin .gtr 3 3, [sy 25, sy 5], .bool false), (.bi .min [3, 3], [sy 17, sy 18], sy 25), (.bin .gtr 3 3, [sy 21, sy 24], .bool false), (.bin .gtr 3 3, [sy 20, sy 23], .bool false), (.bin .gtr 3 3, [sy 19, sy 22], .bool false), (.bin .sub 3 3, [sy 13, sy 10], sy 18), (.bin .sub 3 3, [sy 12, sy 9], sy 17), (.bin .sub 3 3, [sy 11, sy 8], sy 16), (.bin .neq 3 3, [sy 6, sy 15], .bool false), (.conc, [sy 14], .int .i64 0)], [(56, [sy 2, sy 3, sy 4], [sy 22, sy 23, sy 24]), (56, [sy 16, sy 17, sy 18], [sy 19, sy 20, sy 21])], .int .i64 0)
set_option maxRecDepth 1000000 in
theorem saw_can.x6 : saw_can.run saw_can.r6 = true := by kernel_rfl
def saw_can.r7 : Row := ([], [(.bin .eql 3 3, [sy 1, .int .i64 3], .bool false), (.bin .gtr 3 3, [sy 25, sy 5], .bool false), (.bi .min [3, 3], [sy 17, sy 18], sy 25), (.bin .gtr 3 3, [sy 21, sy 24], .bool false), (.bin .gtr 3 3, [sy 20, sy 23], .bool false), (.bin .gtr 3 3, [sy 19, sy 22], .bool false), (.bin .sub 3 3, [sy 13, sy 10], sy 18), (.bin .sub 3 3, [sy 12, sy 9], sy 17), (.bin .sub 3 3, [sy 11, sy 8], sy 16), (.bin .neq 3 3, [sy 6, sy 15], .bool false), (.conc, [sy 14], .int .i64 0)], [(56, [sy 2, sy 3, sy 4], [sy 22, sy 23, sy 24]), (56, [sy 16, sy 17, sy 18], [sy 19, sy 20, sy 21])], .int .i64 0)
set_option maxRecDepth 1000000 in
theorem saw_can.x7 : saw_can.run saw_can.r7 = true := by kernel_rfl
def saw_can.r8 : Row := ([], [(.bin .neq 3 3, [sy 6, sy 15], .bool true), (.conc, [sy 14], .int .i64 0)], [], .int .i64 10)
set_option maxRecDepth 1000000 in
theorem saw_can.x8 : saw_can.run saw_can.r8 = true := by kernel_rfl
def saw_can.r9 : Row := ([], [(.bin .gtr 3 3, [sy 19, sy 22], .bool true), (.bin .sub 3 3, [sy 13, sy 10], sy 18), (.bin .sub 3 3, [sy 12, sy 9], sy 17), (.bin .sub 3 3, [sy 11, sy 8], sy 16), (.bin .neq 3 3, [sy 6, sy 15], .bool false), (.conc, [sy 14], .int .i64 1)], [(56, [sy 2, sy 3, sy 4], [sy 22, sy 23, sy 24]), (56, [sy 16, sy 17, sy 18], [sy 19, sy 20, sy 21])], .int .i64 6)
set_option maxRecDepth 1000000 in
theorem saw_can.x9 : saw_can.run saw_can.r9 = true := by kernel_rfl
def saw_can.r10 : Row := ([], [(.bin .gtr 3 3, [sy 20, sy 23], .bool true), (.bin .gtr 3 3, [sy 19, sy 22], .bool false), (.bin .sub 3 3, [sy 13, sy 10], sy 18), (.bin .sub 3 3, [sy 12, sy 9], sy 17), (.bin .sub 3 3, [sy 11, sy 8], sy 16), (.bin .neq 3 3, [sy 6, sy 15], .bool false), (.conc, [sy 14], .int .i64 1)], [(56, [sy 2, sy 3, sy 4], [sy 22, sy 23, sy 24]), (56, [sy 16, sy 17, sy 18], [sy 19, sy 20, sy 21])], .int .i64 6)
set_option maxRecDepth 1000000 in
theorem saw_can.x10 : saw_can.run saw_can.r10 = true := by kernel_rfl
def saw_can.r11 : Row := ([], [(.bin .gtr 3 3, [sy 21, sy 24], .bool true), (.bin .gtr 3 3, [sy 20, sy 23], .bool false), (.bin .gtr 3 3, [sy 19, sy 22], .bool false), (.bin .sub 3 3, [sy 13, sy 10], sy 18), (.bin .sub 3 3, [sy 12, sy 9], sy 17), (.bin .sub 3 3, [sy 11, sy 8], sy 16), (.bin .neq 3 3, [sy 6, sy 15], .bool false), (.conc, [sy 14], .int .i64 1)], [(56, [sy 2, sy 3, sy 4], [sy 22, sy 23, sy 24]), (56, [sy 16, sy 17, sy 18], [sy 19, sy 20, sy 21])], .int .i64 6)
set_option maxRecDepth 1000000 in
theorem saw_can.x11 : saw_can.run saw_can.r11 = true := by kernel_rfl
def saw_can.r12 : Row := ([], [(.bin .gtr 3 3, [sy 25, sy 5], .bool true), (.bi .min [3, 3], [sy 18, sy 16], sy 25), (.bin .gtr 3 3, [sy 21, sy 24], .bool false), (.bin .gtr 3 3, [sy 20, sy 23], .bool false), (.bin .gtr 3 3, [sy 19, sy 22], .bool false), (.bin .sub 3 3, [sy 13, sy 10], sy 18), (.bin .sub 3 3, [sy 12, sy 9], sy 17), (.bin .sub 3 3, [sy 11, sy 8], sy 16), (.bin .neq 3 3, [sy 6, sy 15], .bool false), (.conc, [sy 14], .int .i64 1)], [(56, [sy 2, sy 3, sy 4], [sy 22, sy 23, sy 24]), (56, [sy 16, sy 17, sy 18], [sy 19, sy 20, sy 21])], .int .i64 12)
set_option maxRecDepth 1000000 in
theorem saw_can.x12 : saw_can.run saw_can.r12 = true := by kernel_rfl
def saw_can.r13 : Row := ([], [(.bin .gtr 3 3, [sy 21, sy 5], .bool true), (.bin .eql 3 3, [sy 17, sy 21], .bool true), (.bin .eql 3 3, [sy 1, .int .i64 3], .bool true), (.bin .gtr 3 3, [sy 25, sy 5], .bool false), (.bi .min [3, 3], [sy 18, sy 16], sy 25), (.bin .gtr 3 3, [sy 21, sy 24], .bool false), (.bin .gtr 3 3, [sy 20, sy 23], .bool false), (.bin .gtr 3 3, [sy 19, sy 22], .bool false), (.bin .sub 3 3, [sy 13, sy 10], sy 18), (.bin .sub 3 3, [sy 12, sy 9], sy 17), (.bin .sub 3 3, [sy 11, sy 8], sy 16), (.bin .neq 3 3, [sy 6, sy 15], .bool false), (.conc, [sy 14], .int .i64 1)], [(56, [sy 2, sy 3, sy 4], [sy 22, sy 23, sy 24]), (56, [sy 16, sy 17, sy 18], [sy 19, sy 20, sy 21])], .int .i64 12)
set_option maxRecDepth 1000000 in
theorem saw_can.x13 : saw_can.run saw_can.r13 = true := by kernel_rfl
def saw_can.r14 : Row := ([], [(.bin .gtr 3 3, [sy 21, sy 5], .bool false), (.bin .eql 3 3, [sy 17, sy 21], .bool true), (.bin .eql 3 3, [sy 1, .int .i64 3], .bool true), (.bin .gtr 3 3, [sy 25, sy 5], .bool false), (.bi .min [3, 3], [sy 18, sy 16], sy 25), (.bin .gtr 3 3, [sy 21, sy 24], .bool false), (.bin .gtr 3 3, [sy 20, sy 23], .bool false), (.bin .gtr 3 3, [sy 19, sy 22], .bool false), (.bin .sub 3 3, [sy 13, sy 10], sy 18), (.bin .sub 3 3, [sy 12, sy 9], sy 17), (.bin .sub 3 3, [sy 11, sy 8], sy 16), (.bin .neq 3 3, [sy 6, sy 15], .bool false), (.conc, [sy 14], .int .i64 1)], [(56, [sy 2, sy 3, sy 4], [sy 22, sy 23, sy 24]), (56, [sy 16, sy 17, sy 18], [sy 19, sy 20, sy 21])], .int .i64 0)
set_option maxRecDepth 1000000 in
theorem saw_can.x14 : saw_can.run saw_can.r14 = true := by kernel_rfl
def saw_can.r15 : Row := ([], [(.bin .eql 3 3, [sy 17, sy 21], .bool false), (.bin .eql 3 3, [sy 1, .int .i64 3], .bool true), (.bin .gtr 3 3, [sy 25, sy 5], .bool false), (.bi .min [3, 3], [sy 18, sy 16], sy 25), (.bin .gtr 3 3, [sy 21, sy 24], .bool false), (.bin .gtr 3 3, [sy 20, sy 23], .bool false), (.bin .gtr 3 3, [sy 19, sy 22], .bool false), (.bin .sub 3 3, [sy 13, sy 10], sy 18), (.bin .sub 3 3, [sy 12, sy 9], sy 17), (.bin .sub 3 3, [sy 11, sy 8], sy 16), (.bin .neq 3 3, [sy 6, sy 15], .bool false), (.conc, [sy 14], .int .i64 1)], [(56, [sy 2, sy 3, sy 4], [sy 22, sy 23, sy 24]), (56, [sy 16, sy 17, sy 18], [sy 19, sy 20, sy 21])], .int .i64 0)
set_option maxRecDepth 1000000 in
theorem saw_can.x15 : saw_can.run saw_can.r15 = true := by kernel_rfl
def saw_can.r16 : Row := ([], [(.bin .eql 3 3, [sy 1, .int .i64 3], .bool false), (.bin .gtr 3 3, [sy 25, sy 5], .bool false), (.bi .min [3, 3], [sy 18, sy 16], sy 25), (.bin .gtr 3 3, [sy 21, sy 24], .bool false), (.bin .gtr 3 3, [sy 20, sy 23], .bool false), (.bin .gtr 3 3, [sy 19, sy 22], .bool false), (.bin .sub 3 3, [sy 13, sy 10], sy 18), (.bin .sub 3 3, [sy 12, sy 9], sy 17), (.bin .sub 3 3, [sy 11, sy 8], sy 16), (.bin .neq 3 3, [sy 6, sy 15], .bool false), (.conc, [sy 14], .int .i64 1)], [(56, [sy 2, sy 3, sy 4], [sy 22, sy 23, sy 24]), (56, [sy 16, sy 17, sy 18], [sy 19, sy 20, sy 21])], .int .i64 0)
set_option maxRecDepth 1000000 in
theorem saw_can.x16 : saw_can.run saw_can.r16 = true := by kernel_rfl
def saw_can.r17 : Row := ([], [(.bin .neq 3 3, [sy 6, sy 15], .bool true), (.conc, [sy 14], .int .i64 1)], [], .int .i64 10)
set_option maxRecDepth 1000000 in
theorem saw_can.x17 : saw_can.run saw_can.r17 = true := by kernel_rfl
def saw_can.r18 : Row := ([], [(.bin .gtr 3 3, [sy 19, sy 22], .bool true), (.bin .sub 3 3, [sy 13, sy 10], sy 18), (.bin .sub 3 3, [sy 12, sy 9], sy 17), (.bin .sub 3 3, [sy 11, sy 8], sy 16), (.bin .neq 3 3, [sy 6, sy 15], .bool false), (.conc, [sy 14], .int .i64 2)], [(56, [sy 2, sy 3, sy 4], [sy 22, sy 23, sy 24]), (56, [sy 16, sy 17, sy 18], [sy 19, sy 20, sy 21])], .int .i64 6)
set_option maxRecDepth 1000000 in
theorem saw_can.x18 : saw_can.run saw_can.r18 = true := by kernel_rfl
def saw_can.r19 : Row := ([], [(.bin .gtr 3 3, [sy 20, sy 23], .bool true), (.bin .gtr 3 3, [sy 19, sy 22], .bool false), (.bin .sub 3 3, [sy 13, sy 10], sy 18), (.bin .sub 3 3, [sy 12, sy 9], sy 17), (.bin .sub 3 3, [sy 11, sy 8], sy 16), (.bin .neq 3 3, [sy 6, sy 15], .bool false), (.conc, [sy 14], .int .i64 2)], [(56, [sy 2, sy 3, sy 4], [sy 22, sy 23, sy 24]), (56, [sy 16, sy 17, sy 18], [sy 19, sy 20, sy 21])], .int .i64 6)
set_option maxRecDepth 1000000 in
theorem saw_can.x19 : saw_can.run saw_can.r19 = true := by kernel_rfl
def saw_can.r20 : Row := ([], [(.bin .gtr 3 3, [sy 21, sy 24], .bool true), (.bin .gtr 3 3, [sy 20, sy 23], .bool false), (.bin .gtr 3 3, [sy 19, sy 22], .bool false), (.bin .sub 3 3, [sy 13, sy 10], sy 18), (.bin .sub 3 3, [sy 12, sy 9], sy 17), (.bin .sub 3 3, [sy 11, sy 8], sy 16), (.bin .neq 3 3, [sy 6, sy 15], .bool false), (.conc, [sy 14], .int .i64 2)], [(56, [sy 2, sy 3, sy 4], [sy 22, sy 23, sy 24]), (56, [sy 16, sy 17, sy 18], [sy 19, sy 20, sy 21])], .int .i64 6)
set_option maxRecDepth 1000000 in
theorem saw_can.x20 : saw_can.run saw_can.r20 = true := by kernel_rfl
def saw_can.r21 : Row := ([], [(.bin .gtr 3 3, [sy 25, sy 5], .bool true), (.bi .min [3, 3], [sy 16, sy 17], sy 25), (.bin .gtr 3 3, [sy 21, sy 24], .bool false), (.bin .gtr 3 3, [sy 20, sy 23], .bool false), (.bin .gtr 3 3, [sy 19, sy 22], .bool false), (.bin .sub 3 3, [sy 13, sy 10], sy 18), (.bin .sub 3 3, [sy 12, sy 9], sy 17), (.bin .sub 3 3, [sy 11, sy 8], sy 16), (.bin .neq 3 3, [sy 6, sy 15], .bool false), (.conc, [sy 14], .int .i64 2)], [(56, [sy 2, sy 3, sy 4], [sy 22, sy 23, sy 24]), (56, [sy 16, sy 17, sy 18], [sy 19, sy 20, sy 21])], .int .i64 12)
set_option maxRecDepth 1000000 in
theorem saw_can.x21 : saw_can.run saw_can.r21 = true := by kernel_rfl
def saw_can.r22 : Row := ([], [(.bin .gtr 3 3, [sy 21, sy 5], .bool true), (.bin .eql 3 3, [sy 18, sy 21], .bool true), (.bin .eql 3 3, [sy 1, .int .i64 3], .bool true), (.bin .gtr 3 3, [sy 25, sy 5], .bool false), (.bi .min [3, 3], [sy 16, sy 17], sy 25), (.bin .gtr 3 3, [sy 21, sy 24], .bool false), (.bin .gtr 3 3, [sy 20, sy 23], .bool false), (.bin .gtr 3 3, [sy 19, sy 22], .bool false), (.bin .sub 3 3, [sy 13, sy 10], sy 18), (.bin .sub 3 3, [sy 12, sy 9], sy 17), (.bin .sub 3 3, [sy 11, sy 8], sy 16), (.bin .neq 3 3, [sy 6, sy 15], .bool false), (.conc, [sy 14], .int .i64 2)], [(56, [sy 2, sy 3, sy 4], [sy 22, sy 23, sy 24]), (56, [sy 16, sy 17, sy 18], [sy 19, sy 20, sy 21])], .int .i64 12)
set_option maxRecDepth 1000000 in
theorem saw_can.x22 : saw_can.run saw_can.r22 = true := by kernel_rfl
def saw_can.r23 : Row := ([], [(.bin .gtr 3 3, [sy 21, sy 5], .bool false), (.bin .eql 3 3, [sy 18, sy 21], .bool true), (.bin .eql 3 3, [sy 1, .int .i64 3], .bool true), (.bin .gtr 3 3, [sy 25, sy 5], .bool false), (.bi .min [3, 3], [sy 16, sy 17], sy 25), (.bin .gtr 3 3, [sy 21, sy 24], .bool false), (.bin .gtr 3 3, [sy 20, sy 23], .bool false), (.bin .gtr 3 3, [sy 19, sy 22], .bool false), (.bin .sub 3 3, [sy 13, sy 10], sy 18), (.bin .sub 3 3, [sy 12, sy 9], sy 17), (.bin .sub 3 3, [sy 11, sy 8], sy 16), (.bin .neq 3 3, [sy 6, sy 15], .bool false), (.conc, [sy 14], .int .i64 2)], [(56, [sy 2, sy 3, sy 4], [sy 22, sy 23, sy 24]), (56, [sy 16, sy 17, sy 18], [sy 19, sy 20, sy 21])], .int .i64 0)
set_option maxRecDepth 1000000 in
theorem saw_can.x23 : saw_can.run saw_can.r23 = true := by kernel_rfl
def saw_can.r24 : Row := ([], [(.bin .eql 3 3, [sy 18, sy 21], .bool false), (.bin .eql 3 3, [sy 1, .int .i64 3], .bool true), (.bin .gtr 3 3, [sy 25, sy 5], .bool false), (.bi .min [3, 3], [sy 16, sy 17], sy 25), (.bin .gtr 3 3, [sy 21, sy 24], .bool false), (.bin .gtr 3 3, [sy 20, sy 23], .bool false), (.bin .gtr 3 3, [sy 19, sy 22], .bool false), (.bin .sub 3 3, [sy 13, sy 10], sy 18), (.bin .sub 3 3, [sy 12, sy 9], sy 17), (.bin .sub 3 3, [sy 11, sy 8], sy 16), (.bin .neq 3 3, [sy 6, sy 15], .bool false), (.conc, [sy 14], .int .i64 2)], [(56, [sy 2, sy 3, sy 4], [sy 22, sy 23, sy 24]), (56, [sy 16, sy 17, sy 18], [sy 19, sy 20, sy 21])], .int .i64 0)
set_option maxRecDepth 1000000 in
theorem saw_can.x24 : saw_can.run saw_can.r24 = true := by kernel_rfl
def saw_can.r25 : Row := ([], [(.bin .eql 3 3, [sy 1, .int .i64 3], .bool false), (.bin .gtr 3 3, [sy 25, sy 5], .bool false), (.bi .min [3, 3], [sy 16, sy 17], sy 25), (.bin .gtr 3 3, [sy 21, sy 24], .bool false), (.bin .gtr 3 3, [sy 20, sy 23], .bool false), (.bin .gtr 3 3, [sy 19, sy 22], .bool false), (.bin .sub 3 3, [sy 13, sy 10], sy 18), (.bin .sub 3 3, [sy 12, sy 9], sy 17), (.bin .sub 3 3, [sy 11, sy 8], sy 16), (.bin .neq 3 3, [sy 6, sy 15], .bool false), (.conc, [sy 14], .int .i64 2)], [(56, [sy 2, sy 3, sy 4], [sy 22, sy 23, sy 24]), (56, [sy 16, sy 17, sy 18], [sy 19, sy 20, sy 21])], .int .i64 0)
set_option maxRecDepth 1000000 in
theorem saw_can.x25 : saw_can.run saw_can.r25 = true := by kernel_rfl
def saw_can.r26 : Row := ([], [(.bin .neq 3 3, [sy 6, sy 15], .bool true), (.conc, [sy 14], .int .i64 2)], [], .int .i64 10)
set_option maxRecDepth 1000000 in
theorem saw_can.x26 : saw_can.run saw_can.r26 = true := by kernel_rfl
theorem saw_can.calls (a0_0 : ByteArray) (a0_1 : Int) (a0_2 : Int) (a0_3 : Int) (a0_4 : Int) (a0_5 : Int) (a0_6 : Int) (a0_7 : Int) (a1_0 : Int) (a1_1 : Int) (a1_2 : Int) (a1_3 : Int) (a1_4 : Int) (a1_5 : Int) (a2 : Int) (a3 : Int) (r : Int) (w : World) (h : saw_can.f a0_0 a0_1 a0_2 a0_3 a0_4 a0_5 a0_6 a0_7 a1_0 a1_1 a1_2 a1_3 a1_4 a1_5 a2 a3 = some r) : Calls Try.prog 36 #[.agg #[.string a0_0, .int .i64 a0_1, .int .i64 a0_2, .int .i64 a0_3, .int .i64 a0_4, .int .i64 a0_5, .int .i64 a0_6, .int .i64 a0_7], .agg #[.int .i64 a1_0, .int .i64 a1_1, .int .i64 a1_2, .int .i64 a1_3, .int .i64 a1_4, .int .i64 a1_5], .int .i64 a2, .int .i64 a3] w fun e w' => e = .returned (.int .i64 r) ∧ Below w.heap.size w w' := by
  unfold saw_can.f at h
  by_cases h1 : a2 = 0
  · rw [if_pos h1] at h
    by_cases h2 : a0_6 = a3
    · rw [if_pos h2] at h
      by_cases h3 : (sort3.f (wrap64 (a1_3 - a1_0)) (wrap64 (a1_4 - a1_1)) (wrap64 (a1_5 - a1_2))).1 > (sort3.f a0_2 a0_3 a0_4).1
      · rw [if_pos h3] at h
        obtain rfl := Option.some.inj h
        letI : Syms := symsOf [.string a0_0, .int .i64 a0_1, .int .i64 a0_2, .int .i64 a0_3, .int .i64 a0_4, .int .i64 a0_5, .int .i64 a0_6, .int .i64 a0_7, .int .i64 a1_0, .int .i64 a1_1, .int .i64 a1_2, .int .i64 a1_3, .int .i64 a1_4, .int .i64 a1_5, .int .i64 a2, .int .i64 a3, .int .i64 (wrap64 (a1_3 - a1_0)), .int .i64 (wrap64 (a1_4 - a1_1)), .int .i64 (wrap64 (a1_5 - a1_2)), .int .i64 ((sort3.f (wrap64 (a1_3 - a1_0)) (wrap64 (a1_4 - a1_1)) (wrap64 (a1_5 - a1_2))).1), .int .i64 ((sort3.f (wrap64 (a1_3 - a1_0)) (wrap64 (a1_4 - a1_1)) (wrap64 (a1_5 - a1_2))).2.1), .int .i64 ((sort3.f (wrap64 (a1_3 - a1_0)) (wrap64 (a1_4 - a1_1)) (wrap64 (a1_5 - a1_2))).2.2), .int .i64 ((sort3.f a0_2 a0_3 a0_4).1), .int .i64 ((sort3.f a0_2 a0_3 a0_4).2.1), .int .i64 ((sort3.f a0_2 a0_3 a0_4).2.2)] rfl
        exact run_leaf (r := saw_can.r0) follows noNum saw_can.x0 trivial ⟨ks_gtr true (decide_eq_true h3), ks_sub64, ks_sub64, ks_sub64, ks_neq false (by rw [decide_eq_true h2]; rfl), ks_conc (congrArg (Value.int .i64) h1), trivial⟩ ⟨(sort3.mem a0_2 a0_3 a0_4), (sort3.mem (wrap64 (a1_3 - a1_0)) (wrap64 (a1_4 - a1_1)) (wrap64 (a1_5 - a1_2))), trivial⟩ rfl rfl w
      · rw [if_neg h3] at h
        by_cases h4 : (sort3.f (wrap64 (a1_3 - a1_0)) (wrap64 (a1_4 - a1_1)) (wrap64 (a1_5 - a1_2))).2.1 > (sort3.f a0_2 a0_3 a0_4).2.1
        · rw [if_pos h4] at h
          obtain rfl := Option.some.inj h
          letI : Syms := symsOf [.string a0_0, .int .i64 a0_1, .int .i64 a0_2, .int .i64 a0_3, .int .i64 a0_4, .int .i64 a0_5, .int .i64 a0_6, .int .i64 a0_7, .int .i64 a1_0, .int .i64 a1_1, .int .i64 a1_2, .int .i64 a1_3, .int .i64 a1_4, .int .i64 a1_5, .int .i64 a2, .int .i64 a3, .int .i64 (wrap64 (a1_3 - a1_0)), .int .i64 (wrap64 (a1_4 - a1_1)), .int .i64 (wrap64 (a1_5 - a1_2)), .int .i64 ((sort3.f (wrap64 (a1_3 - a1_0)) (wrap64 (a1_4 - a1_1)) (wrap64 (a1_5 - a1_2))).1), .int .i64 ((sort3.f (wrap64 (a1_3 - a1_0)) (wrap64 (a1_4 - a1_1)) (wrap64 (a1_5 - a1_2))).2.1), .int .i64 ((sort3.f (wrap64 (a1_3 - a1_0)) (wrap64 (a1_4 - a1_1)) (wrap64 (a1_5 - a1_2))).2.2), .int .i64 ((sort3.f a0_2 a0_3 a0_4).1), .int .i64 ((sort3.f a0_2 a0_3 a0_4).2.1), .int .i64 ((sort3.f a0_2 a0_3 a0_4).2.2)] rfl
          exact run_leaf (r := saw_can.r1) follows noNum saw_can.x1 trivial ⟨ks_gtr true (decide_eq_true h4), ks_gtr false (decide_eq_false h3), ks_sub64, ks_sub64, ks_sub64, ks_neq false (by rw [decide_eq_true h2]; rfl), ks_conc (congrArg (Value.int .i64) h1), trivial⟩ ⟨(sort3.mem a0_2 a0_3 a0_4), (sort3.mem (wrap64 (a1_3 - a1_0)) (wrap64 (a1_4 - a1_1)) (wrap64 (a1_5 - a1_2))), trivial⟩ rfl rfl w
        · rw [if_neg h4] at h
          by_cases h5 : (sort3.f (wrap64 (a1_3 - a1_0)) (wrap64 (a1_4 - a1_1)) (wrap64 (a1_5 - a1_2))).2.2 > (sort3.f a0_2 a0_3 a0_4).2.2
          · rw [if_pos h5] at h
            obtain rfl := Option.some.inj h
            letI : Syms := symsOf [.string a0_0, .int .i64 a0_1, .int .i64 a0_2, .int .i64 a0_3, .int .i64 a0_4, .int .i64 a0_5, .int .i64 a0_6, .int .i64 a0_7, .int .i64 a1_0, .int .i64 a1_1, .int .i64 a1_2, .int .i64 a1_3, .int .i64 a1_4, .int .i64 a1_5, .int .i64 a2, .int .i64 a3, .int .i64 (wrap64 (a1_3 - a1_0)), .int .i64 (wrap64 (a1_4 - a1_1)), .int .i64 (wrap64 (a1_5 - a1_2)), .int .i64 ((sort3.f (wrap64 (a1_3 - a1_0)) (wrap64 (a1_4 - a1_1)) (wrap64 (a1_5 - a1_2))).1), .int .i64 ((sort3.f (wrap64 (a1_3 - a1_0)) (wrap64 (a1_4 - a1_1)) (wrap64 (a1_5 - a1_2))).2.1), .int .i64 ((sort3.f (wrap64 (a1_3 - a1_0)) (wrap64 (a1_4 - a1_1)) (wrap64 (a1_5 - a1_2))).2.2), .int .i64 ((sort3.f a0_2 a0_3 a0_4).1), .int .i64 ((sort3.f a0_2 a0_3 a0_4).2.1), .int .i64 ((sort3.f a0_2 a0_3 a0_4).2.2)] rfl
            exact run_leaf (r := saw_can.r2) follows noNum saw_can.x2 trivial ⟨ks_gtr true (decide_eq_true h5), ks_gtr false (decide_eq_false h4), ks_gtr false (decide_eq_false h3), ks_sub64, ks_sub64, ks_sub64, ks_neq false (by rw [decide_eq_true h2]; rfl), ks_conc (congrArg (Value.int .i64) h1), trivial⟩ ⟨(sort3.mem a0_2 a0_3 a0_4), (sort3.mem (wrap64 (a1_3 - a1_0)) (wrap64 (a1_4 - a1_1)) (wrap64 (a1_5 - a1_2))), trivial⟩ rfl rfl w
          · rw [if_neg h5] at h
            by_cases h6 : mn (wrap64 (a1_4 - a1_1)) (wrap64 (a1_5 - a1_2)) > a0_5
            · rw [if_pos h6] at h
              obtain rfl := Option.some.inj h
              letI : Syms := symsOf [.string a0_0, .int .i64 a0_1, .int .i64 a0_2, .int .i64 a0_3, .int .i64 a0_4, .int .i64 a0_5, .int .i64 a0_6, .int .i64 a0_7, .int .i64 a1_0, .int .i64 a1_1, .int .i64 a1_2, .int .i64 a1_3, .int .i64 a1_4, .int .i64 a1_5, .int .i64 a2, .int .i64 a3, .int .i64 (wrap64 (a1_3 - a1_0)), .int .i64 (wrap64 (a1_4 - a1_1)), .int .i64 (wrap64 (a1_5 - a1_2)), .int .i64 ((sort3.f (wrap64 (a1_3 - a1_0)) (wrap64 (a1_4 - a1_1)) (wrap64 (a1_5 - a1_2))).1), .int .i64 ((sort3.f (wrap64 (a1_3 - a1_0)) (wrap64 (a1_4 - a1_1)) (wrap64 (a1_5 - a1_2))).2.1), .int .i64 ((sort3.f (wrap64 (a1_3 - a1_0)) (wrap64 (a1_4 - a1_1)) (wrap64 (a1_5 - a1_2))).2.2), .int .i64 ((sort3.f a0_2 a0_3 a0_4).1), .int .i64 ((sort3.f a0_2 a0_3 a0_4).2.1), .int .i64 ((sort3.f a0_2 a0_3 a0_4).2.2), .int .i64 (mn (wrap64 (a1_4 - a1_1)) (wrap64 (a1_5 - a1_2)))] rfl
              exact run_leaf (r := saw_can.r3) follows noNum saw_can.x3 trivial ⟨ks_gtr true (decide_eq_true h6), ks_min2, ks_gtr false (decide_eq_false h5), ks_gtr false (decide_eq_false h4), ks_gtr false (decide_eq_false h3), ks_sub64, ks_sub64, ks_sub64, ks_neq false (by rw [decide_eq_true h2]; rfl), ks_conc (congrArg (Value.int .i64) h1), trivial⟩ ⟨(sort3.mem a0_2 a0_3 a0_4), (sort3.mem (wrap64 (a1_3 - a1_0)) (wrap64 (a1_4 - a1_1)) (wrap64 (a1_5 - a1_2))), trivial⟩ rfl rfl w
            · rw [if_neg h6] at h
              by_cases h7 : a0_1 = 3
              · rw [if_pos h7] at h
                by_cases h8 : wrap64 (a1_3 - a1_0) = (sort3.f (wrap64 (a1_3 - a1_0)) (wrap64 (a1_4 - a1_1)) (wrap64 (a1_5 - a1_2))).2.2
                · rw [if_pos h8] at h
                  by_cases h9 : (sort3.f (wrap64 (a1_3 - a1_0)) (wrap64 (a1_4 - a1_1)) (wrap64 (a1_5 - a1_2))).2.2 > a0_5
                  · rw [if_pos h9] at h
                    obtain rfl := Option.some.inj h
                    letI : Syms := symsOf [.string a0_0, .int .i64 a0_1, .int .i64 a0_2, .int .i64 a0_3, .int .i64 a0_4, .int .i64 a0_5, .int .i64 a0_6, .int .i64 a0_7, .int .i64 a1_0, .int .i64 a1_1, .int .i64 a1_2, .int .i64 a1_3, .int .i64 a1_4, .int .i64 a1_5, .int .i64 a2, .int .i64 a3, .int .i64 (wrap64 (a1_3 - a1_0)), .int .i64 (wrap64 (a1_4 - a1_1)), .int .i64 (wrap64 (a1_5 - a1_2)), .int .i64 ((sort3.f (wrap64 (a1_3 - a1_0)) (wrap64 (a1_4 - a1_1)) (wrap64 (a1_5 - a1_2))).1), .int .i64 ((sort3.f (wrap64 (a1_3 - a1_0)) (wrap64 (a1_4 - a1_1)) (wrap64 (a1_5 - a1_2))).2.1), .int .i64 ((sort3.f (wrap64 (a1_3 - a1_0)) (wrap64 (a1_4 - a1_1)) (wrap64 (a1_5 - a1_2))).2.2), .int .i64 ((sort3.f a0_2 a0_3 a0_4).1), .int .i64 ((sort3.f a0_2 a0_3 a0_4).2.1), .int .i64 ((sort3.f a0_2 a0_3 a0_4).2.2), .int .i64 (mn (wrap64 (a1_4 - a1_1)) (wrap64 (a1_5 - a1_2)))] rfl
                    exact run_leaf (r := saw_can.r4) follows noNum saw_can.x4 trivial ⟨ks_gtr true (decide_eq_true h9), ks_eql true (decide_eq_true h8), ks_eql true (decide_eq_true h7), ks_gtr false (decide_eq_false h6), ks_min2, ks_gtr false (decide_eq_false h5), ks_gtr false (decide_eq_false h4), ks_gtr false (decide_eq_false h3), ks_sub64, ks_sub64, ks_sub64, ks_neq false (by rw [decide_eq_true h2]; rfl), ks_conc (congrArg (Value.int .i64) h1), trivial⟩ ⟨(sort3.mem a0_2 a0_3 a0_4), (sort3.mem (wrap64 (a1_3 - a1_0)) (wrap64 (a1_4 - a1_1)) (wrap64 (a1_5 - a1_2))), trivial⟩ rfl rfl w
                  · rw [if_neg h9] at h
                    obtain rfl := Option.some.inj h
                    letI : Syms := symsOf [.string a0_0, .int .i64 a0_1, .int .i64 a0_2, .int .i64 a0_3, .int .i64 a0_4, .int .i64 a0_5, .int .i64 a0_6, .int .i64 a0_7, .int .i64 a1_0, .int .i64 a1_1, .int .i64 a1_2, .int .i64 a1_3, .int .i64 a1_4, .int .i64 a1_5, .int .i64 a2, .int .i64 a3, .int .i64 (wrap64 (a1_3 - a1_0)), .int .i64 (wrap64 (a1_4 - a1_1)), .int .i64 (wrap64 (a1_5 - a1_2)), .int .i64 ((sort3.f (wrap64 (a1_3 - a1_0)) (wrap64 (a1_4 - a1_1)) (wrap64 (a1_5 - a1_2))).1), .int .i64 ((sort3.f (wrap64 (a1_3 - a1_0)) (wrap64 (a1_4 - a1_1)) (wrap64 (a1_5 - a1_2))).2.1), .int .i64 ((sort3.f (wrap64 (a1_3 - a1_0)) (wrap64 (a1_4 - a1_1)) (wrap64 (a1_5 - a1_2))).2.2), .int .i64 ((sort3.f a0_2 a0_3 a0_4).1), .int .i64 ((sort3.f a0_2 a0_3 a0_4).2.1), .int .i64 ((sort3.f a0_2 a0_3 a0_4).2.2), .int .i64 (mn (wrap64 (a1_4 - a1_1)) (wrap64 (a1_5 - a1_2)))] rfl
                    exact run_leaf (r := saw_can.r5) follows noNum saw_can.x5 trivial ⟨ks_gtr false (decide_eq_false h9), ks_eql true (decide_eq_true h8), ks_eql true (decide_eq_true h7), ks_gtr false (decide_eq_false h6), ks_min2, ks_gtr false (decide_eq_false h5), ks_gtr false (decide_eq_false h4), ks_gtr false (decide_eq_false h3), ks_sub64, ks_sub64, ks_sub64, ks_neq false (by rw [decide_eq_true h2]; rfl), ks_conc (congrArg (Value.int .i64) h1), trivial⟩ ⟨(sort3.mem a0_2 a0_3 a0_4), (sort3.mem (wrap64 (a1_3 - a1_0)) (wrap64 (a1_4 - a1_1)) (wrap64 (a1_5 - a1_2))), trivial⟩ rfl rfl w
                · rw [if_neg h8] at h
                  obtain rfl := Option.some.inj h
                  letI : Syms := symsOf [.string a0_0, .int .i64 a0_1, .int .i64 a0_2, .int .i64 a0_3, .int .i64 a0_4, .int .i64 a0_5, .int .i64 a0_6, .int .i64 a0_7, .int .i64 a1_0, .int .i64 a1_1, .int .i64 a1_2, .int .i64 a1_3, .int .i64 a1_4, .int .i64 a1_5, .int .i64 a2, .int .i64 a3, .int .i64 (wrap64 (a1_3 - a1_0)), .int .i64 (wrap64 (a1_4 - a1_1)), .int .i64 (wrap64 (a1_5 - a1_2)), .int .i64 ((sort3.f (wrap64 (a1_3 - a1_0)) (wrap64 (a1_4 - a1_1)) (wrap64 (a1_5 - a1_2))).1), .int .i64 ((sort3.f (wrap64 (a1_3 - a1_0)) (wrap64 (a1_4 - a1_1)) (wrap64 (a1_5 - a1_2))).2.1), .int .i64 ((sort3.f (wrap64 (a1_3 - a1_0)) (wrap64 (a1_4 - a1_1)) (wrap64 (a1_5 - a1_2))).2.2), .int .i64 ((sort3.f a0_2 a0_3 a0_4).1), .int .i64 ((sort3.f a0_2 a0_3 a0_4).2.1), .int .i64 ((sort3.f a0_2 a0_3 a0_4).2.2), .int .i64 (mn (wrap64 (a1_4 - a1_1)) (wrap64 (a1_5 - a1_2)))] rfl
                  exact run_leaf (r := saw_can.r6) follows noNum saw_can.x6 trivial ⟨ks_eql false (decide_eq_false h8), ks_eql true (decide_eq_true h7), ks_gtr false (decide_eq_false h6), ks_min2, ks_gtr false (decide_eq_false h5), ks_gtr false (decide_eq_false h4), ks_gtr false (decide_eq_false h3), ks_sub64, ks_sub64, ks_sub64, ks_neq false (by rw [decide_eq_true h2]; rfl), ks_conc (congrArg (Value.int .i64) h1), trivial⟩ ⟨(sort3.mem a0_2 a0_3 a0_4), (sort3.mem (wrap64 (a1_3 - a1_0)) (wrap64 (a1_4 - a1_1)) (wrap64 (a1_5 - a1_2))), trivial⟩ rfl rfl w
              · rw [if_neg h7] at h
                obtain rfl := Option.some.inj h
                letI : Syms := symsOf [.string a0_0, .int .i64 a0_1, .int .i64 a0_2, .int .i64 a0_3, .int .i64 a0_4, .int .i64 a0_5, .int .i64 a0_6, .int .i64 a0_7, .int .i64 a1_0, .int .i64 a1_1, .int .i64 a1_2, .int .i64 a1_3, .int .i64 a1_4, .int .i64 a1_5, .int .i64 a2, .int .i64 a3, .int .i64 (wrap64 (a1_3 - a1_0)), .int .i64 (wrap64 (a1_4 - a1_1)), .int .i64 (wrap64 (a1_5 - a1_2)), .int .i64 ((sort3.f (wrap64 (a1_3 - a1_0)) (wrap64 (a1_4 - a1_1)) (wrap64 (a1_5 - a1_2))).1), .int .i64 ((sort3.f (wrap64 (a1_3 - a1_0)) (wrap64 (a1_4 - a1_1)) (wrap64 (a1_5 - a1_2))).2.1), .int .i64 ((sort3.f (wrap64 (a1_3 - a1_0)) (wrap64 (a1_4 - a1_1)) (wrap64 (a1_5 - a1_2))).2.2), .int .i64 ((sort3.f a0_2 a0_3 a0_4).1), .int .i64 ((sort3.f a0_2 a0_3 a0_4).2.1), .int .i64 ((sort3.f a0_2 a0_3 a0_4).2.2), .int .i64 (mn (wrap64 (a1_4 - a1_1)) (wrap64 (a1_5 - a1_2)))] rfl
                exact run_leaf (r := saw_can.r7) follows noNum saw_can.x7 trivial ⟨ks_eql false (decide_eq_false h7), ks_gtr false (decide_eq_false h6), ks_min2, ks_gtr false (decide_eq_false h5), ks_gtr false (decide_eq_false h4), ks_gtr false (decide_eq_false h3), ks_sub64, ks_sub64, ks_sub64, ks_neq false (by rw [decide_eq_true h2]; rfl), ks_conc (congrArg (Value.int .i64) h1), trivial⟩ ⟨(sort3.mem a0_2 a0_3 a0_4), (sort3.mem (wrap64 (a1_3 - a1_0)) (wrap64 (a1_4 - a1_1)) (wrap64 (a1_5 - a1_2))), trivial⟩ rfl rfl w
    · rw [if_neg h2] at h
      obtain rfl := Option.some.inj h
      letI : Syms := symsOf [.string a0_0, .int .i64 a0_1, .int .i64 a0_2, .int .i64 a0_3, .int .i64 a0_4, .int .i64 a0_5, .int .i64 a0_6, .int .i64 a0_7, .int .i64 a1_0, .int .i64 a1_1, .int .i64 a1_2, .int .i64 a1_3, .int .i64 a1_4, .int .i64 a1_5, .int .i64 a2, .int .i64 a3] rfl
      exact run_leaf (r := saw_can.r8) follows noNum saw_can.x8 trivial ⟨ks_neq true (by rw [decide_eq_false h2]; rfl), ks_conc (congrArg (Value.int .i64) h1), trivial⟩ trivial rfl rfl w
  · rw [if_neg h1] at h
    by_cases h2 : a2 = 1
    · rw [if_pos h2] at h
      by_cases h3 : a0_6 = a3
      · rw [if_pos h3] at h
        by_cases h4 : (sort3.f (wrap64 (a1_3 - a1_0)) (wrap64 (a1_4 - a1_1)) (wrap64 (a1_5 - a1_2))).1 > (sort3.f a0_2 a0_3 a0_4).1
        · rw [if_pos h4] at h
          obtain rfl := Option.some.inj h
          letI : Syms := symsOf [.string a0_0, .int .i64 a0_1, .int .i64 a0_2, .int .i64 a0_3, .int .i64 a0_4, .int .i64 a0_5, .int .i64 a0_6, .int .i64 a0_7, .int .i64 a1_0, .int .i64 a1_1, .int .i64 a1_2, .int .i64 a1_3, .int .i64 a1_4, .int .i64 a1_5, .int .i64 a2, .int .i64 a3, .int .i64 (wrap64 (a1_3 - a1_0)), .int .i64 (wrap64 (a1_4 - a1_1)), .int .i64 (wrap64 (a1_5 - a1_2)), .int .i64 ((sort3.f (wrap64 (a1_3 - a1_0)) (wrap64 (a1_4 - a1_1)) (wrap64 (a1_5 - a1_2))).1), .int .i64 ((sort3.f (wrap64 (a1_3 - a1_0)) (wrap64 (a1_4 - a1_1)) (wrap64 (a1_5 - a1_2))).2.1), .int .i64 ((sort3.f (wrap64 (a1_3 - a1_0)) (wrap64 (a1_4 - a1_1)) (wrap64 (a1_5 - a1_2))).2.2), .int .i64 ((sort3.f a0_2 a0_3 a0_4).1), .int .i64 ((sort3.f a0_2 a0_3 a0_4).2.1), .int .i64 ((sort3.f a0_2 a0_3 a0_4).2.2)] rfl
          exact run_leaf (r := saw_can.r9) follows noNum saw_can.x9 trivial ⟨ks_gtr true (decide_eq_true h4), ks_sub64, ks_sub64, ks_sub64, ks_neq false (by rw [decide_eq_true h3]; rfl), ks_conc (congrArg (Value.int .i64) h2), trivial⟩ ⟨(sort3.mem a0_2 a0_3 a0_4), (sort3.mem (wrap64 (a1_3 - a1_0)) (wrap64 (a1_4 - a1_1)) (wrap64 (a1_5 - a1_2))), trivial⟩ rfl rfl w
        · rw [if_neg h4] at h
          by_cases h5 : (sort3.f (wrap64 (a1_3 - a1_0)) (wrap64 (a1_4 - a1_1)) (wrap64 (a1_5 - a1_2))).2.1 > (sort3.f a0_2 a0_3 a0_4).2.1
          · rw [if_pos h5] at h
            obtain rfl := Option.some.inj h
            letI : Syms := symsOf [.string a0_0, .int .i64 a0_1, .int .i64 a0_2, .int .i64 a0_3, .int .i64 a0_4, .int .i64 a0_5, .int .i64 a0_6, .int .i64 a0_7, .int .i64 a1_0, .int .i64 a1_1, .int .i64 a1_2, .int .i64 a1_3, .int .i64 a1_4, .int .i64 a1_5, .int .i64 a2, .int .i64 a3, .int .i64 (wrap64 (a1_3 - a1_0)), .int .i64 (wrap64 (a1_4 - a1_1)), .int .i64 (wrap64 (a1_5 - a1_2)), .int .i64 ((sort3.f (wrap64 (a1_3 - a1_0)) (wrap64 (a1_4 - a1_1)) (wrap64 (a1_5 - a1_2))).1), .int .i64 ((sort3.f (wrap64 (a1_3 - a1_0)) (wrap64 (a1_4 - a1_1)) (wrap64 (a1_5 - a1_2))).2.1), .int .i64 ((sort3.f (wrap64 (a1_3 - a1_0)) (wrap64 (a1_4 - a1_1)) (wrap64 (a1_5 - a1_2))).2.2), .int .i64 ((sort3.f a0_2 a0_3 a0_4).1), .int .i64 ((sort3.f a0_2 a0_3 a0_4).2.1), .int .i64 ((sort3.f a0_2 a0_3 a0_4).2.2)] rfl
            exact run_leaf (r := saw_can.r10) follows noNum saw_can.x10 trivial ⟨ks_gtr true (decide_eq_true h5), ks_gtr false (decide_eq_false h4), ks_sub64, ks_sub64, ks_sub64, ks_neq false (by rw [decide_eq_true h3]; rfl), ks_conc (congrArg (Value.int .i64) h2), trivial⟩ ⟨(sort3.mem a0_2 a0_3 a0_4), (sort3.mem (wrap64 (a1_3 - a1_0)) (wrap64 (a1_4 - a1_1)) (wrap64 (a1_5 - a1_2))), trivial⟩ rfl rfl w
          · rw [if_neg h5] at h
            by_cases h6 : (sort3.f (wrap64 (a1_3 - a1_0)) (wrap64 (a1_4 - a1_1)) (wrap64 (a1_5 - a1_2))).2.2 > (sort3.f a0_2 a0_3 a0_4).2.2
            · rw [if_pos h6] at h
              obtain rfl := Option.some.inj h
              letI : Syms := symsOf [.string a0_0, .int .i64 a0_1, .int .i64 a0_2, .int .i64 a0_3, .int .i64 a0_4, .int .i64 a0_5, .int .i64 a0_6, .int .i64 a0_7, .int .i64 a1_0, .int .i64 a1_1, .int .i64 a1_2, .int .i64 a1_3, .int .i64 a1_4, .int .i64 a1_5, .int .i64 a2, .int .i64 a3, .int .i64 (wrap64 (a1_3 - a1_0)), .int .i64 (wrap64 (a1_4 - a1_1)), .int .i64 (wrap64 (a1_5 - a1_2)), .int .i64 ((sort3.f (wrap64 (a1_3 - a1_0)) (wrap64 (a1_4 - a1_1)) (wrap64 (a1_5 - a1_2))).1), .int .i64 ((sort3.f (wrap64 (a1_3 - a1_0)) (wrap64 (a1_4 - a1_1)) (wrap64 (a1_5 - a1_2))).2.1), .int .i64 ((sort3.f (wrap64 (a1_3 - a1_0)) (wrap64 (a1_4 - a1_1)) (wrap64 (a1_5 - a1_2))).2.2), .int .i64 ((sort3.f a0_2 a0_3 a0_4).1), .int .i64 ((sort3.f a0_2 a0_3 a0_4).2.1), .int .i64 ((sort3.f a0_2 a0_3 a0_4).2.2)] rfl
              exact run_leaf (r := saw_can.r11) follows noNum saw_can.x11 trivial ⟨ks_gtr true (decide_eq_true h6), ks_gtr false (decide_eq_false h5), ks_gtr false (decide_eq_false h4), ks_sub64, ks_sub64, ks_sub64, ks_neq false (by rw [decide_eq_true h3]; rfl), ks_conc (congrArg (Value.int .i64) h2), trivial⟩ ⟨(sort3.mem a0_2 a0_3 a0_4), (sort3.mem (wrap64 (a1_3 - a1_0)) (wrap64 (a1_4 - a1_1)) (wrap64 (a1_5 - a1_2))), trivial⟩ rfl rfl w
            · rw [if_neg h6] at h
              by_cases h7 : mn (wrap64 (a1_5 - a1_2)) (wrap64 (a1_3 - a1_0)) > a0_5
              · rw [if_pos h7] at h
                obtain rfl := Option.some.inj h
                letI : Syms := symsOf [.string a0_0, .int .i64 a0_1, .int .i64 a0_2, .int .i64 a0_3, .int .i64 a0_4, .int .i64 a0_5, .int .i64 a0_6, .int .i64 a0_7, .int .i64 a1_0, .int .i64 a1_1, .int .i64 a1_2, .int .i64 a1_3, .int .i64 a1_4, .int .i64 a1_5, .int .i64 a2, .int .i64 a3, .int .i64 (wrap64 (a1_3 - a1_0)), .int .i64 (wrap64 (a1_4 - a1_1)), .int .i64 (wrap64 (a1_5 - a1_2)), .int .i64 ((sort3.f (wrap64 (a1_3 - a1_0)) (wrap64 (a1_4 - a1_1)) (wrap64 (a1_5 - a1_2))).1), .int .i64 ((sort3.f (wrap64 (a1_3 - a1_0)) (wrap64 (a1_4 - a1_1)) (wrap64 (a1_5 - a1_2))).2.1), .int .i64 ((sort3.f (wrap64 (a1_3 - a1_0)) (wrap64 (a1_4 - a1_1)) (wrap64 (a1_5 - a1_2))).2.2), .int .i64 ((sort3.f a0_2 a0_3 a0_4).1), .int .i64 ((sort3.f a0_2 a0_3 a0_4).2.1), .int .i64 ((sort3.f a0_2 a0_3 a0_4).2.2), .int .i64 (mn (wrap64 (a1_5 - a1_2)) (wrap64 (a1_3 - a1_0)))] rfl
                exact run_leaf (r := saw_can.r12) follows noNum saw_can.x12 trivial ⟨ks_gtr true (decide_eq_true h7), ks_min2, ks_gtr false (decide_eq_false h6), ks_gtr false (decide_eq_false h5), ks_gtr false (decide_eq_false h4), ks_sub64, ks_sub64, ks_sub64, ks_neq false (by rw [decide_eq_true h3]; rfl), ks_conc (congrArg (Value.int .i64) h2), trivial⟩ ⟨(sort3.mem a0_2 a0_3 a0_4), (sort3.mem (wrap64 (a1_3 - a1_0)) (wrap64 (a1_4 - a1_1)) (wrap64 (a1_5 - a1_2))), trivial⟩ rfl rfl w
              · rw [if_neg h7] at h
                by_cases h8 : a0_1 = 3
                · rw [if_pos h8] at h
                  by_cases h9 : wrap64 (a1_4 - a1_1) = (sort3.f (wrap64 (a1_3 - a1_0)) (wrap64 (a1_4 - a1_1)) (wrap64 (a1_5 - a1_2))).2.2
                  · rw [if_pos h9] at h
                    by_cases h10 : (sort3.f (wrap64 (a1_3 - a1_0)) (wrap64 (a1_4 - a1_1)) (wrap64 (a1_5 - a1_2))).2.2 > a0_5
                    · rw [if_pos h10] at h
                      obtain rfl := Option.some.inj h
                      letI : Syms := symsOf [.string a0_0, .int .i64 a0_1, .int .i64 a0_2, .int .i64 a0_3, .int .i64 a0_4, .int .i64 a0_5, .int .i64 a0_6, .int .i64 a0_7, .int .i64 a1_0, .int .i64 a1_1, .int .i64 a1_2, .int .i64 a1_3, .int .i64 a1_4, .int .i64 a1_5, .int .i64 a2, .int .i64 a3, .int .i64 (wrap64 (a1_3 - a1_0)), .int .i64 (wrap64 (a1_4 - a1_1)), .int .i64 (wrap64 (a1_5 - a1_2)), .int .i64 ((sort3.f (wrap64 (a1_3 - a1_0)) (wrap64 (a1_4 - a1_1)) (wrap64 (a1_5 - a1_2))).1), .int .i64 ((sort3.f (wrap64 (a1_3 - a1_0)) (wrap64 (a1_4 - a1_1)) (wrap64 (a1_5 - a1_2))).2.1), .int .i64 ((sort3.f (wrap64 (a1_3 - a1_0)) (wrap64 (a1_4 - a1_1)) (wrap64 (a1_5 - a1_2))).2.2), .int .i64 ((sort3.f a0_2 a0_3 a0_4).1), .int .i64 ((sort3.f a0_2 a0_3 a0_4).2.1), .int .i64 ((sort3.f a0_2 a0_3 a0_4).2.2), .int .i64 (mn (wrap64 (a1_5 - a1_2)) (wrap64 (a1_3 - a1_0)))] rfl
                      exact run_leaf (r := saw_can.r13) follows noNum saw_can.x13 trivial ⟨ks_gtr true (decide_eq_true h10), ks_eql true (decide_eq_true h9), ks_eql true (decide_eq_true h8), ks_gtr false (decide_eq_false h7), ks_min2, ks_gtr false (decide_eq_false h6), ks_gtr false (decide_eq_false h5), ks_gtr false (decide_eq_false h4), ks_sub64, ks_sub64, ks_sub64, ks_neq false (by rw [decide_eq_true h3]; rfl), ks_conc (congrArg (Value.int .i64) h2), trivial⟩ ⟨(sort3.mem a0_2 a0_3 a0_4), (sort3.mem (wrap64 (a1_3 - a1_0)) (wrap64 (a1_4 - a1_1)) (wrap64 (a1_5 - a1_2))), trivial⟩ rfl rfl w
                    · rw [if_neg h10] at h
                      obtain rfl := Option.some.inj h
                      letI : Syms := symsOf [.string a0_0, .int .i64 a0_1, .int .i64 a0_2, .int .i64 a0_3, .int .i64 a0_4, .int .i64 a0_5, .int .i64 a0_6, .int .i64 a0_7, .int .i64 a1_0, .int .i64 a1_1, .int .i64 a1_2, .int .i64 a1_3, .int .i64 a1_4, .int .i64 a1_5, .int .i64 a2, .int .i64 a3, .int .i64 (wrap64 (a1_3 - a1_0)), .int .i64 (wrap64 (a1_4 - a1_1)), .int .i64 (wrap64 (a1_5 - a1_2)), .int .i64 ((sort3.f (wrap64 (a1_3 - a1_0)) (wrap64 (a1_4 - a1_1)) (wrap64 (a1_5 - a1_2))).1), .int .i64 ((sort3.f (wrap64 (a1_3 - a1_0)) (wrap64 (a1_4 - a1_1)) (wrap64 (a1_5 - a1_2))).2.1), .int .i64 ((sort3.f (wrap64 (a1_3 - a1_0)) (wrap64 (a1_4 - a1_1)) (wrap64 (a1_5 - a1_2))).2.2), .int .i64 ((sort3.f a0_2 a0_3 a0_4).1), .int .i64 ((sort3.f a0_2 a0_3 a0_4).2.1), .int .i64 ((sort3.f a0_2 a0_3 a0_4).2.2), .int .i64 (mn (wrap64 (a1_5 - a1_2)) (wrap64 (a1_3 - a1_0)))] rfl
                      exact run_leaf (r := saw_can.r14) follows noNum saw_can.x14 trivial ⟨ks_gtr false (decide_eq_false h10), ks_eql true (decide_eq_true h9), ks_eql true (decide_eq_true h8), ks_gtr false (decide_eq_false h7), ks_min2, ks_gtr false (decide_eq_false h6), ks_gtr false (decide_eq_false h5), ks_gtr false (decide_eq_false h4), ks_sub64, ks_sub64, ks_sub64, ks_neq false (by rw [decide_eq_true h3]; rfl), ks_conc (congrArg (Value.int .i64) h2), trivial⟩ ⟨(sort3.mem a0_2 a0_3 a0_4), (sort3.mem (wrap64 (a1_3 - a1_0)) (wrap64 (a1_4 - a1_1)) (wrap64 (a1_5 - a1_2))), trivial⟩ rfl rfl w
                  · rw [if_neg h9] at h
                    obtain rfl := Option.some.inj h
                    letI : Syms := symsOf [.string a0_0, .int .i64 a0_1, .int .i64 a0_2, .int .i64 a0_3, .int .i64 a0_4, .int .i64 a0_5, .int .i64 a0_6, .int .i64 a0_7, .int .i64 a1_0, .int .i64 a1_1, .int .i64 a1_2, .int .i64 a1_3, .int .i64 a1_4, .int .i64 a1_5, .int .i64 a2, .int .i64 a3, .int .i64 (wrap64 (a1_3 - a1_0)), .int .i64 (wrap64 (a1_4 - a1_1)), .int .i64 (wrap64 (a1_5 - a1_2)), .int .i64 ((sort3.f (wrap64 (a1_3 - a1_0)) (wrap64 (a1_4 - a1_1)) (wrap64 (a1_5 - a1_2))).1), .int .i64 ((sort3.f (wrap64 (a1_3 - a1_0)) (wrap64 (a1_4 - a1_1)) (wrap64 (a1_5 - a1_2))).2.1), .int .i64 ((sort3.f (wrap64 (a1_3 - a1_0)) (wrap64 (a1_4 - a1_1)) (wrap64 (a1_5 - a1_2))).2.2), .int .i64 ((sort3.f a0_2 a0_3 a0_4).1), .int .i64 ((sort3.f a0_2 a0_3 a0_4).2.1), .int .i64 ((sort3.f a0_2 a0_3 a0_4).2.2), .int .i64 (mn (wrap64 (a1_5 - a1_2)) (wrap64 (a1_3 - a1_0)))] rfl
                    exact run_leaf (r := saw_can.r15) follows noNum saw_can.x15 trivial ⟨ks_eql false (decide_eq_false h9), ks_eql true (decide_eq_true h8), ks_gtr false (decide_eq_false h7), ks_min2, ks_gtr false (decide_eq_false h6), ks_gtr false (decide_eq_false h5), ks_gtr false (decide_eq_false h4), ks_sub64, ks_sub64, ks_sub64, ks_neq false (by rw [decide_eq_true h3]; rfl), ks_conc (congrArg (Value.int .i64) h2), trivial⟩ ⟨(sort3.mem a0_2 a0_3 a0_4), (sort3.mem (wrap64 (a1_3 - a1_0)) (wrap64 (a1_4 - a1_1)) (wrap64 (a1_5 - a1_2))), trivial⟩ rfl rfl w
                · rw [if_neg h8] at h
                  obtain rfl := Option.some.inj h
                  letI : Syms := symsOf [.string a0_0, .int .i64 a0_1, .int .i64 a0_2, .int .i64 a0_3, .int .i64 a0_4, .int .i64 a0_5, .int .i64 a0_6, .int .i64 a0_7, .int .i64 a1_0, .int .i64 a1_1, .int .i64 a1_2, .int .i64 a1_3, .int .i64 a1_4, .int .i64 a1_5, .int .i64 a2, .int .i64 a3, .int .i64 (wrap64 (a1_3 - a1_0)), .int .i64 (wrap64 (a1_4 - a1_1)), .int .i64 (wrap64 (a1_5 - a1_2)), .int .i64 ((sort3.f (wrap64 (a1_3 - a1_0)) (wrap64 (a1_4 - a1_1)) (wrap64 (a1_5 - a1_2))).1), .int .i64 ((sort3.f (wrap64 (a1_3 - a1_0)) (wrap64 (a1_4 - a1_1)) (wrap64 (a1_5 - a1_2))).2.1), .int .i64 ((sort3.f (wrap64 (a1_3 - a1_0)) (wrap64 (a1_4 - a1_1)) (wrap64 (a1_5 - a1_2))).2.2), .int .i64 ((sort3.f a0_2 a0_3 a0_4).1), .int .i64 ((sort3.f a0_2 a0_3 a0_4).2.1), .int .i64 ((sort3.f a0_2 a0_3 a0_4).2.2), .int .i64 (mn (wrap64 (a1_5 - a1_2)) (wrap64 (a1_3 - a1_0)))] rfl
                  exact run_leaf (r := saw_can.r16) follows noNum saw_can.x16 trivial ⟨ks_eql false (decide_eq_false h8), ks_gtr false (decide_eq_false h7), ks_min2, ks_gtr false (decide_eq_false h6), ks_gtr false (decide_eq_false h5), ks_gtr false (decide_eq_false h4), ks_sub64, ks_sub64, ks_sub64, ks_neq false (by rw [decide_eq_true h3]; rfl), ks_conc (congrArg (Value.int .i64) h2), trivial⟩ ⟨(sort3.mem a0_2 a0_3 a0_4), (sort3.mem (wrap64 (a1_3 - a1_0)) (wrap64 (a1_4 - a1_1)) (wrap64 (a1_5 - a1_2))), trivial⟩ rfl rfl w
      · rw [if_neg h3] at h
        obtain rfl := Option.some.inj h
        letI : Syms := symsOf [.string a0_0, .int .i64 a0_1, .int .i64 a0_2, .int .i64 a0_3, .int .i64 a0_4, .int .i64 a0_5, .int .i64 a0_6, .int .i64 a0_7, .int .i64 a1_0, .int .i64 a1_1, .int .i64 a1_2, .int .i64 a1_3, .int .i64 a1_4, .int .i64 a1_5, .int .i64 a2, .int .i64 a3] rfl
        exact run_leaf (r := saw_can.r17) follows noNum saw_can.x17 trivial ⟨ks_neq true (by rw [decide_eq_false h3]; rfl), ks_conc (congrArg (Value.int .i64) h2), trivial⟩ trivial rfl rfl w
    · rw [if_neg h2] at h
      by_cases h3 : a2 = 2
      · rw [if_pos h3] at h
        by_cases h4 : a0_6 = a3
        · rw [if_pos h4] at h
          by_cases h5 : (sort3.f (wrap64 (a1_3 - a1_0)) (wrap64 (a1_4 - a1_1)) (wrap64 (a1_5 - a1_2))).1 > (sort3.f a0_2 a0_3 a0_4).1
          · rw [if_pos h5] at h
            obtain rfl := Option.some.inj h
            letI : Syms := symsOf [.string a0_0, .int .i64 a0_1, .int .i64 a0_2, .int .i64 a0_3, .int .i64 a0_4, .int .i64 a0_5, .int .i64 a0_6, .int .i64 a0_7, .int .i64 a1_0, .int .i64 a1_1, .int .i64 a1_2, .int .i64 a1_3, .int .i64 a1_4, .int .i64 a1_5, .int .i64 a2, .int .i64 a3, .int .i64 (wrap64 (a1_3 - a1_0)), .int .i64 (wrap64 (a1_4 - a1_1)), .int .i64 (wrap64 (a1_5 - a1_2)), .int .i64 ((sort3.f (wrap64 (a1_3 - a1_0)) (wrap64 (a1_4 - a1_1)) (wrap64 (a1_5 - a1_2))).1), .int .i64 ((sort3.f (wrap64 (a1_3 - a1_0)) (wrap64 (a1_4 - a1_1)) (wrap64 (a1_5 - a1_2))).2.1), .int .i64 ((sort3.f (wrap64 (a1_3 - a1_0)) (wrap64 (a1_4 - a1_1)) (wrap64 (a1_5 - a1_2))).2.2), .int .i64 ((sort3.f a0_2 a0_3 a0_4).1), .int .i64 ((sort3.f a0_2 a0_3 a0_4).2.1), .int .i64 ((sort3.f a0_2 a0_3 a0_4).2.2)] rfl
            exact run_leaf (r := saw_can.r18) follows noNum saw_can.x18 trivial ⟨ks_gtr true (decide_eq_true h5), ks_sub64, ks_sub64, ks_sub64, ks_neq false (by rw [decide_eq_true h4]; rfl), ks_conc (congrArg (Value.int .i64) h3), trivial⟩ ⟨(sort3.mem a0_2 a0_3 a0_4), (sort3.mem (wrap64 (a1_3 - a1_0)) (wrap64 (a1_4 - a1_1)) (wrap64 (a1_5 - a1_2))), trivial⟩ rfl rfl w
          · rw [if_neg h5] at h
            by_cases h6 : (sort3.f (wrap64 (a1_3 - a1_0)) (wrap64 (a1_4 - a1_1)) (wrap64 (a1_5 - a1_2))).2.1 > (sort3.f a0_2 a0_3 a0_4).2.1
            · rw [if_pos h6] at h
              obtain rfl := Option.some.inj h
              letI : Syms := symsOf [.string a0_0, .int .i64 a0_1, .int .i64 a0_2, .int .i64 a0_3, .int .i64 a0_4, .int .i64 a0_5, .int .i64 a0_6, .int .i64 a0_7, .int .i64 a1_0, .int .i64 a1_1, .int .i64 a1_2, .int .i64 a1_3, .int .i64 a1_4, .int .i64 a1_5, .int .i64 a2, .int .i64 a3, .int .i64 (wrap64 (a1_3 - a1_0)), .int .i64 (wrap64 (a1_4 - a1_1)), .int .i64 (wrap64 (a1_5 - a1_2)), .int .i64 ((sort3.f (wrap64 (a1_3 - a1_0)) (wrap64 (a1_4 - a1_1)) (wrap64 (a1_5 - a1_2))).1), .int .i64 ((sort3.f (wrap64 (a1_3 - a1_0)) (wrap64 (a1_4 - a1_1)) (wrap64 (a1_5 - a1_2))).2.1), .int .i64 ((sort3.f (wrap64 (a1_3 - a1_0)) (wrap64 (a1_4 - a1_1)) (wrap64 (a1_5 - a1_2))).2.2), .int .i64 ((sort3.f a0_2 a0_3 a0_4).1), .int .i64 ((sort3.f a0_2 a0_3 a0_4).2.1), .int .i64 ((sort3.f a0_2 a0_3 a0_4).2.2)] rfl
              exact run_leaf (r := saw_can.r19) follows noNum saw_can.x19 trivial ⟨ks_gtr true (decide_eq_true h6), ks_gtr false (decide_eq_false h5), ks_sub64, ks_sub64, ks_sub64, ks_neq false (by rw [decide_eq_true h4]; rfl), ks_conc (congrArg (Value.int .i64) h3), trivial⟩ ⟨(sort3.mem a0_2 a0_3 a0_4), (sort3.mem (wrap64 (a1_3 - a1_0)) (wrap64 (a1_4 - a1_1)) (wrap64 (a1_5 - a1_2))), trivial⟩ rfl rfl w
            · rw [if_neg h6] at h
              by_cases h7 : (sort3.f (wrap64 (a1_3 - a1_0)) (wrap64 (a1_4 - a1_1)) (wrap64 (a1_5 - a1_2))).2.2 > (sort3.f a0_2 a0_3 a0_4).2.2
              · rw [if_pos h7] at h
                obtain rfl := Option.some.inj h
                letI : Syms := symsOf [.string a0_0, .int .i64 a0_1, .int .i64 a0_2, .int .i64 a0_3, .int .i64 a0_4, .int .i64 a0_5, .int .i64 a0_6, .int .i64 a0_7, .int .i64 a1_0, .int .i64 a1_1, .int .i64 a1_2, .int .i64 a1_3, .int .i64 a1_4, .int .i64 a1_5, .int .i64 a2, .int .i64 a3, .int .i64 (wrap64 (a1_3 - a1_0)), .int .i64 (wrap64 (a1_4 - a1_1)), .int .i64 (wrap64 (a1_5 - a1_2)), .int .i64 ((sort3.f (wrap64 (a1_3 - a1_0)) (wrap64 (a1_4 - a1_1)) (wrap64 (a1_5 - a1_2))).1), .int .i64 ((sort3.f (wrap64 (a1_3 - a1_0)) (wrap64 (a1_4 - a1_1)) (wrap64 (a1_5 - a1_2))).2.1), .int .i64 ((sort3.f (wrap64 (a1_3 - a1_0)) (wrap64 (a1_4 - a1_1)) (wrap64 (a1_5 - a1_2))).2.2), .int .i64 ((sort3.f a0_2 a0_3 a0_4).1), .int .i64 ((sort3.f a0_2 a0_3 a0_4).2.1), .int .i64 ((sort3.f a0_2 a0_3 a0_4).2.2)] rfl
                exact run_leaf (r := saw_can.r20) follows noNum saw_can.x20 trivial ⟨ks_gtr true (decide_eq_true h7), ks_gtr false (decide_eq_false h6), ks_gtr false (decide_eq_false h5), ks_sub64, ks_sub64, ks_sub64, ks_neq false (by rw [decide_eq_true h4]; rfl), ks_conc (congrArg (Value.int .i64) h3), trivial⟩ ⟨(sort3.mem a0_2 a0_3 a0_4), (sort3.mem (wrap64 (a1_3 - a1_0)) (wrap64 (a1_4 - a1_1)) (wrap64 (a1_5 - a1_2))), trivial⟩ rfl rfl w
              · rw [if_neg h7] at h
                by_cases h8 : mn (wrap64 (a1_3 - a1_0)) (wrap64 (a1_4 - a1_1)) > a0_5
                · rw [if_pos h8] at h
                  obtain rfl := Option.some.inj h
                  letI : Syms := symsOf [.string a0_0, .int .i64 a0_1, .int .i64 a0_2, .int .i64 a0_3, .int .i64 a0_4, .int .i64 a0_5, .int .i64 a0_6, .int .i64 a0_7, .int .i64 a1_0, .int .i64 a1_1, .int .i64 a1_2, .int .i64 a1_3, .int .i64 a1_4, .int .i64 a1_5, .int .i64 a2, .int .i64 a3, .int .i64 (wrap64 (a1_3 - a1_0)), .int .i64 (wrap64 (a1_4 - a1_1)), .int .i64 (wrap64 (a1_5 - a1_2)), .int .i64 ((sort3.f (wrap64 (a1_3 - a1_0)) (wrap64 (a1_4 - a1_1)) (wrap64 (a1_5 - a1_2))).1), .int .i64 ((sort3.f (wrap64 (a1_3 - a1_0)) (wrap64 (a1_4 - a1_1)) (wrap64 (a1_5 - a1_2))).2.1), .int .i64 ((sort3.f (wrap64 (a1_3 - a1_0)) (wrap64 (a1_4 - a1_1)) (wrap64 (a1_5 - a1_2))).2.2), .int .i64 ((sort3.f a0_2 a0_3 a0_4).1), .int .i64 ((sort3.f a0_2 a0_3 a0_4).2.1), .int .i64 ((sort3.f a0_2 a0_3 a0_4).2.2), .int .i64 (mn (wrap64 (a1_3 - a1_0)) (wrap64 (a1_4 - a1_1)))] rfl
                  exact run_leaf (r := saw_can.r21) follows noNum saw_can.x21 trivial ⟨ks_gtr true (decide_eq_true h8), ks_min2, ks_gtr false (decide_eq_false h7), ks_gtr false (decide_eq_false h6), ks_gtr false (decide_eq_false h5), ks_sub64, ks_sub64, ks_sub64, ks_neq false (by rw [decide_eq_true h4]; rfl), ks_conc (congrArg (Value.int .i64) h3), trivial⟩ ⟨(sort3.mem a0_2 a0_3 a0_4), (sort3.mem (wrap64 (a1_3 - a1_0)) (wrap64 (a1_4 - a1_1)) (wrap64 (a1_5 - a1_2))), trivial⟩ rfl rfl w
                · rw [if_neg h8] at h
                  by_cases h9 : a0_1 = 3
                  · rw [if_pos h9] at h
                    by_cases h10 : wrap64 (a1_5 - a1_2) = (sort3.f (wrap64 (a1_3 - a1_0)) (wrap64 (a1_4 - a1_1)) (wrap64 (a1_5 - a1_2))).2.2
                    · rw [if_pos h10] at h
                      by_cases h11 : (sort3.f (wrap64 (a1_3 - a1_0)) (wrap64 (a1_4 - a1_1)) (wrap64 (a1_5 - a1_2))).2.2 > a0_5
                      · rw [if_pos h11] at h
                        obtain rfl := Option.some.inj h
                        letI : Syms := symsOf [.string a0_0, .int .i64 a0_1, .int .i64 a0_2, .int .i64 a0_3, .int .i64 a0_4, .int .i64 a0_5, .int .i64 a0_6, .int .i64 a0_7, .int .i64 a1_0, .int .i64 a1_1, .int .i64 a1_2, .int .i64 a1_3, .int .i64 a1_4, .int .i64 a1_5, .int .i64 a2, .int .i64 a3, .int .i64 (wrap64 (a1_3 - a1_0)), .int .i64 (wrap64 (a1_4 - a1_1)), .int .i64 (wrap64 (a1_5 - a1_2)), .int .i64 ((sort3.f (wrap64 (a1_3 - a1_0)) (wrap64 (a1_4 - a1_1)) (wrap64 (a1_5 - a1_2))).1), .int .i64 ((sort3.f (wrap64 (a1_3 - a1_0)) (wrap64 (a1_4 - a1_1)) (wrap64 (a1_5 - a1_2))).2.1), .int .i64 ((sort3.f (wrap64 (a1_3 - a1_0)) (wrap64 (a1_4 - a1_1)) (wrap64 (a1_5 - a1_2))).2.2), .int .i64 ((sort3.f a0_2 a0_3 a0_4).1), .int .i64 ((sort3.f a0_2 a0_3 a0_4).2.1), .int .i64 ((sort3.f a0_2 a0_3 a0_4).2.2), .int .i64 (mn (wrap64 (a1_3 - a1_0)) (wrap64 (a1_4 - a1_1)))] rfl
                        exact run_leaf (r := saw_can.r22) follows noNum saw_can.x22 trivial ⟨ks_gtr true (decide_eq_true h11), ks_eql true (decide_eq_true h10), ks_eql true (decide_eq_true h9), ks_gtr false (decide_eq_false h8), ks_min2, ks_gtr false (decide_eq_false h7), ks_gtr false (decide_eq_false h6), ks_gtr false (decide_eq_false h5), ks_sub64, ks_sub64, ks_sub64, ks_neq false (by rw [decide_eq_true h4]; rfl), ks_conc (congrArg (Value.int .i64) h3), trivial⟩ ⟨(sort3.mem a0_2 a0_3 a0_4), (sort3.mem (wrap64 (a1_3 - a1_0)) (wrap64 (a1_4 - a1_1)) (wrap64 (a1_5 - a1_2))), trivial⟩ rfl rfl w
                      · rw [if_neg h11] at h
                        obtain rfl := Option.some.inj h
                        letI : Syms := symsOf [.string a0_0, .int .i64 a0_1, .int .i64 a0_2, .int .i64 a0_3, .int .i64 a0_4, .int .i64 a0_5, .int .i64 a0_6, .int .i64 a0_7, .int .i64 a1_0, .int .i64 a1_1, .int .i64 a1_2, .int .i64 a1_3, .int .i64 a1_4, .int .i64 a1_5, .int .i64 a2, .int .i64 a3, .int .i64 (wrap64 (a1_3 - a1_0)), .int .i64 (wrap64 (a1_4 - a1_1)), .int .i64 (wrap64 (a1_5 - a1_2)), .int .i64 ((sort3.f (wrap64 (a1_3 - a1_0)) (wrap64 (a1_4 - a1_1)) (wrap64 (a1_5 - a1_2))).1), .int .i64 ((sort3.f (wrap64 (a1_3 - a1_0)) (wrap64 (a1_4 - a1_1)) (wrap64 (a1_5 - a1_2))).2.1), .int .i64 ((sort3.f (wrap64 (a1_3 - a1_0)) (wrap64 (a1_4 - a1_1)) (wrap64 (a1_5 - a1_2))).2.2), .int .i64 ((sort3.f a0_2 a0_3 a0_4).1), .int .i64 ((sort3.f a0_2 a0_3 a0_4).2.1), .int .i64 ((sort3.f a0_2 a0_3 a0_4).2.2), .int .i64 (mn (wrap64 (a1_3 - a1_0)) (wrap64 (a1_4 - a1_1)))] rfl
                        exact run_leaf (r := saw_can.r23) follows noNum saw_can.x23 trivial ⟨ks_gtr false (decide_eq_false h11), ks_eql true (decide_eq_true h10), ks_eql true (decide_eq_true h9), ks_gtr false (decide_eq_false h8), ks_min2, ks_gtr false (decide_eq_false h7), ks_gtr false (decide_eq_false h6), ks_gtr false (decide_eq_false h5), ks_sub64, ks_sub64, ks_sub64, ks_neq false (by rw [decide_eq_true h4]; rfl), ks_conc (congrArg (Value.int .i64) h3), trivial⟩ ⟨(sort3.mem a0_2 a0_3 a0_4), (sort3.mem (wrap64 (a1_3 - a1_0)) (wrap64 (a1_4 - a1_1)) (wrap64 (a1_5 - a1_2))), trivial⟩ rfl rfl w
                    · rw [if_neg h10] at h
                      obtain rfl := Option.some.inj h
                      letI : Syms := symsOf [.string a0_0, .int .i64 a0_1, .int .i64 a0_2, .int .i64 a0_3, .int .i64 a0_4, .int .i64 a0_5, .int .i64 a0_6, .int .i64 a0_7, .int .i64 a1_0, .int .i64 a1_1, .int .i64 a1_2, .int .i64 a1_3, .int .i64 a1_4, .int .i64 a1_5, .int .i64 a2, .int .i64 a3, .int .i64 (wrap64 (a1_3 - a1_0)), .int .i64 (wrap64 (a1_4 - a1_1)), .int .i64 (wrap64 (a1_5 - a1_2)), .int .i64 ((sort3.f (wrap64 (a1_3 - a1_0)) (wrap64 (a1_4 - a1_1)) (wrap64 (a1_5 - a1_2))).1), .int .i64 ((sort3.f (wrap64 (a1_3 - a1_0)) (wrap64 (a1_4 - a1_1)) (wrap64 (a1_5 - a1_2))).2.1), .int .i64 ((sort3.f (wrap64 (a1_3 - a1_0)) (wrap64 (a1_4 - a1_1)) (wrap64 (a1_5 - a1_2))).2.2), .int .i64 ((sort3.f a0_2 a0_3 a0_4).1), .int .i64 ((sort3.f a0_2 a0_3 a0_4).2.1), .int .i64 ((sort3.f a0_2 a0_3 a0_4).2.2), .int .i64 (mn (wrap64 (a1_3 - a1_0)) (wrap64 (a1_4 - a1_1)))] rfl
                      exact run_leaf (r := saw_can.r24) follows noNum saw_can.x24 trivial ⟨ks_eql false (decide_eq_false h10), ks_eql true (decide_eq_true h9), ks_gtr false (decide_eq_false h8), ks_min2, ks_gtr false (decide_eq_false h7), ks_gtr false (decide_eq_false h6), ks_gtr false (decide_eq_false h5), ks_sub64, ks_sub64, ks_sub64, ks_neq false (by rw [decide_eq_true h4]; rfl), ks_conc (congrArg (Value.int .i64) h3), trivial⟩ ⟨(sort3.mem a0_2 a0_3 a0_4), (sort3.mem (wrap64 (a1_3 - a1_0)) (wrap64 (a1_4 - a1_1)) (wrap64 (a1_5 - a1_2))), trivial⟩ rfl rfl w
                  · rw [if_neg h9] at h
                    obtain rfl := Option.some.inj h
                    letI : Syms := symsOf [.string a0_0, .int .i64 a0_1, .int .i64 a0_2, .int .i64 a0_3, .int .i64 a0_4, .int .i64 a0_5, .int .i64 a0_6, .int .i64 a0_7, .int .i64 a1_0, .int .i64 a1_1, .int .i64 a1_2, .int .i64 a1_3, .int .i64 a1_4, .int .i64 a1_5, .int .i64 a2, .int .i64 a3, .int .i64 (wrap64 (a1_3 - a1_0)), .int .i64 (wrap64 (a1_4 - a1_1)), .int .i64 (wrap64 (a1_5 - a1_2)), .int .i64 ((sort3.f (wrap64 (a1_3 - a1_0)) (wrap64 (a1_4 - a1_1)) (wrap64 (a1_5 - a1_2))).1), .int .i64 ((sort3.f (wrap64 (a1_3 - a1_0)) (wrap64 (a1_4 - a1_1)) (wrap64 (a1_5 - a1_2))).2.1), .int .i64 ((sort3.f (wrap64 (a1_3 - a1_0)) (wrap64 (a1_4 - a1_1)) (wrap64 (a1_5 - a1_2))).2.2), .int .i64 ((sort3.f a0_2 a0_3 a0_4).1), .int .i64 ((sort3.f a0_2 a0_3 a0_4).2.1), .int .i64 ((sort3.f a0_2 a0_3 a0_4).2.2), .int .i64 (mn (wrap64 (a1_3 - a1_0)) (wrap64 (a1_4 - a1_1)))] rfl
                    exact run_leaf (r := saw_can.r25) follows noNum saw_can.x25 trivial ⟨ks_eql false (decide_eq_false h9), ks_gtr false (decide_eq_false h8), ks_min2, ks_gtr false (decide_eq_false h7), ks_gtr false (decide_eq_false h6), ks_gtr false (decide_eq_false h5), ks_sub64, ks_sub64, ks_sub64, ks_neq false (by rw [decide_eq_true h4]; rfl), ks_conc (congrArg (Value.int .i64) h3), trivial⟩ ⟨(sort3.mem a0_2 a0_3 a0_4), (sort3.mem (wrap64 (a1_3 - a1_0)) (wrap64 (a1_4 - a1_1)) (wrap64 (a1_5 - a1_2))), trivial⟩ rfl rfl w
        · rw [if_neg h4] at h
          obtain rfl := Option.some.inj h
          letI : Syms := symsOf [.string a0_0, .int .i64 a0_1, .int .i64 a0_2, .int .i64 a0_3, .int .i64 a0_4, .int .i64 a0_5, .int .i64 a0_6, .int .i64 a0_7, .int .i64 a1_0, .int .i64 a1_1, .int .i64 a1_2, .int .i64 a1_3, .int .i64 a1_4, .int .i64 a1_5, .int .i64 a2, .int .i64 a3] rfl
          exact run_leaf (r := saw_can.r26) follows noNum saw_can.x26 trivial ⟨ks_neq true (by rw [decide_eq_false h4]; rfl), ks_conc (congrArg (Value.int .i64) h3), trivial⟩ trivial rfl rfl w
      · rw [if_neg h3] at h
        cases h
end Go.Proofs.Ytlbpdhjdlnhciaa.Sym
