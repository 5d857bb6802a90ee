/- What functions without slices return: the runner carries them out over symbols, path by path. -/
import Derived.Test.YtfedmcehkpfciaaGreatRunC
import Derived.Test.YtfedmcehkpfciaaGreatProg
import Derived.KernelRfl
import Derived.Test.YtfedmcehkpfciaaGreatM1
set_option linter.unusedVariables false
set_option linter.unusedSimpArgs false
namespace Go.Proofs.YtfedmcehkpfciaaGreat.SymC
open Go.RowKit Go.Proofs.YtfedmcehkpfciaaGreatW.PrintWords Go.Proofs.YtfedmcehkpfciaaGreatW.PrintMore Go.Proofs.YtfedmcehkpfciaaGreat.Run Go.Proofs.YtfedmcehkpfciaaGreat.RunC 
def box_Check.f (a0_0 : Int) (a0_1 : Int) (a0_2 : Int) (a0_3 : Int) (a0_4 : Int) (a0_5 : Int) : Option (Int) :=
  if a0_0 ≥ (-1000000) then (if a0_0 ≤ 1000000 then (if a0_3 ≥ (-1000000) then (if a0_3 ≤ 1000000 then (if a0_1 ≥ (-1000000) then (if a0_1 ≤ 1000000 then (if a0_4 ≥ (-1000000) then (if a0_4 ≤ 1000000 then (if a0_2 ≥ (-1000000) then (if a0_2 ≤ 1000000 then (if a0_5 ≥ (-1000000) then (if a0_5 ≤ 1000000 then (if a0_0 ≥ a0_3 then (some 1) else (if a0_1 ≥ a0_4 then (some 1) else (if a0_2 ≥ a0_5 then (some 1) else (some 0)))) else (some 6)) else (some 6)) else (some 6)) else (some 6)) else (some 6)) else (some 6)) else (some 6)) else (some 6)) else (some 6)) else (some 6)) else (some 6)) else (some 6)
noncomputable def box_Check.run (r : Row) : Bool := saysV (xcall Tryz.prog 0 10000 (orcOf r.1 r.2.1 r.2.2.1) 40 0 (.fn 39) [.agg ⟨[sy 0, sy 1, sy 2, sy 3, sy 4, sy 5]⟩] ⟨.leaf, 0⟩) r.2.2.2
def box_Check.r0 : Row := ([], [(.bin .geq 3 3, [sy 0, sy 3], .bool true), (.bin .leq 3 3, [sy 5, .int .i64 1000000], .bool true), (.bin .geq 3 3, [sy 5, .int .i64 (-1000000)], .bool true), (.bin .leq 3 3, [sy 2, .int .i64 1000000], .bool true), (.bin .geq 3 3, [sy 2, .int .i64 (-1000000)], .bool true), (.bin .leq 3 3, [sy 4, .int .i64 1000000], .bool true), (.bin .geq 3 3, [sy 4, .int .i64 (-1000000)], .bool true), (.bin .leq 3 3, [sy 1, .int .i64 1000000], .bool true), (.bin .geq 3 3, [sy 1, .int .i64 (-1000000)], .bool true), (.bin .leq 3 3, [sy 3, .int .i64 1000000], .bool true), (.bin .geq 3 3, [sy 3, .int .i64 (-1000000)], .bool true), (.bin .leq 3 3, [sy 0, .int .i64 1000000], .bool true), (.bin .geq 3 3, [sy 0, .int .i64 (-1000000)], .bool true)], [], .int .i64 1)
set_option maxRecDepth 1000000 in
theorem box_Check.x0 : box_Check.run box_Check.r0 = true := by kernel_rfl
def box_Check.r1 : Row := ([], [(.bin .geq 3 3, [sy 1, sy 4], .bool true), (.bin .geq 3 3, [sy 0, sy 3], .bool false), (.bin .leq 3 3, [sy 5, .int .i64 1000000], .bool true), (.bin .geq 3 3, [sy 5, .int .i64 (-1000000)], .bool true), (.bin .leq 3 3, [sy 2, .int .i64 1000000], .bool true), (.bin .geq 3 3, [sy 2, .int .i64 (-1000000)], .bool true), (.bin .leq 3 3, [sy 4, .int .i64 1000000], .bool true), (.bin .geq 3 3, [sy 4, .int .i64 (-1000000)], .bool true), (.bin .leq 3 3, [sy 1, .int .i64 1000000], .bool true), (.bin .geq 3 3, [sy 1, .int .i64 (-1000000)], .bool true), (.bin .leq 3 3, [sy 3, .int .i64 1000000], .bool true), (.bin .geq 3 3, [sy 3, .int .i64 (-1000000)], .bool true), (.bin .leq 3 3, [sy 0, .int .i64 1000000], .bool true), (.bin .geq 3 3, [sy 0, .int .i64 (-1000000)], .bool true)], [], .int .i64 1)
set_option maxRecDepth 1000000 in
theorem box_Check.x1 : box_Check.run box_Check.r1 = true := by kernel_rfl
def box_Check.r2 : Row := ([], [(.bin .geq 3 3, [sy 2, sy 5], .bool true), (.bin .geq 3 3, [sy 1, sy 4], .bool false), (.bin .geq 3 3, [sy 0, sy 3], .bool false), (.bin .leq 3 3, [sy 5, .int .i64 1000000], .bool true), (.bin .geq 3 3, [sy 5, .int .i64 (-1000000)], .bool true), (.bin .leq 3 3, [sy 2, .int .i64 1000000], .bool true), (.bin .geq 3 3, [sy 2, .int .i64 (-1000000)], .bool true), (.bin .leq 3 3, [sy 4, .int .i64 1000000], .bool true), (.bin .geq 3 3, [sy 4, .int .i64 (-1000000)], .bool true), (.bin .leq 3 3, [sy 1, .int .i64 1000000], .bool true), (.bin .geq 3 3, [sy 1, .int .i64 (-1000000)], .bool true), (.bin .leq 3 3, [sy 3, .int .i64 1000000], .bool true), (.bin .geq 3 3, [sy 3, .int .i64 (-1000000)], .bool true), (.bin .leq 3 3, [sy 0, .int .i64 1000000], .bool true), (.bin .geq 3 3, [sy 0, .int .i64 (-1000000)], .bool true)], [], .int .i64 1)
set_option maxRecDepth 1000000 in
theorem box_Check.x2 : box_Check.run box_Check.r2 = true := by kernel_rfl
def box_Check.r3 : Row := ([], [(.bin .geq 3 3, [sy 2, sy 5], .bool false), (.bin .geq 3 3, [sy 1, sy 4], .bool false), (.bin .geq 3 3, [sy 0, sy 3], .bool false), (.bin .leq 3 3, [sy 5, .int .i64 1000000], .bool true), (.bin .geq 3 3, [sy 5, .int .i64 (-1000000)], .bool true), (.bin .leq 3 3, [sy 2, .int .i64 1000000], .bool true), (.bin .geq 3 3, [sy 2, .int .i64 (-1000000)], .bool true), (.bin .leq 3 3, [sy 4, .int .i64 1000000], .bool true), (.bin .geq 3 3, [sy 4, .int .i64 (-1000000)], .bool true), (.bin .leq 3 3, [sy 1, .int .i64 1000000], .bool true), (.bin .geq 3 3, [sy 1, .int .i64 (-1000000)], .bool true), (.bin .leq 3 3, [sy 3, .int .i64 1000000], .bool true), (.bin .geq 3 3, [sy 3, .int .i64 (-1000000)], .bool true), (.bin .leq 3 3, [sy 0, .int .i64 1000000], .bool true), (.bin .geq 3 3, [sy 0, .int .i64 (-1000000)], .bool true)], [], .int .i64 0)
set_option maxRecDepth 1000000 in
theorem box_Check.x3 : box_Check.run box_Check.r3 = true := by kernel_rfl
def box_Check.r4 : Row := ([], [(.bin .leq 3 3, [sy 5, .int .i64 1000000], .bool false), (.bin .geq 3 3, [sy 5, .int .i64 (-1000000)], .bool true), (.bin .leq 3 3, [sy 2, .int .i64 1000000], .bool true), (.bin .geq 3 3, [sy 2, .int .i64 (-1000000)], .bool true), (.bin .leq 3 3, [sy 4, .int .i64 1000000], .bool true), (.bin .geq 3 3, [sy 4, .int .i64 (-1000000)], .bool true), (.bin .leq 3 3, [sy 1, .int .i64 1000000], .bool true), (.bin .geq 3 3, [sy 1, .int .i64 (-1000000)], .bool true), (.bin .leq 3 3, [sy 3, .int .i64 1000000], .bool true), (.bin .geq 3 3, [sy 3, .int .i64 (-1000000)], .bool true), (.bin .leq 3 3, [sy 0, .int .i64 1000000], .bool true), (.bin .geq 3 3, [sy 0, .int .i64 (-1000000)], .bool true)], [], .int .i64 6)
set_option maxRecDepth 1000000 in
theorem box_Check.x4 : box_Check.run box_Check.r4 = true := by kernel_rfl
def box_Check.r5 : Row := ([], [(.bin .geq 3 3, [sy 5, .int .i64 (-1000000)], .bool false), (.bin .leq 3 3, [sy 2, .int .i64 1000000], .bool true), (.bin .geq 3 3, [sy 2, .int .i64 (-1000000)], .bool true), (.bin .leq 3 3, [sy 4, .int .i64 1000000], .bool true), (.bin .geq 3 3, [sy 4, .int .i64 (-1000000)], .bool true), (.bin .leq 3 3, [sy 1, .int .i64 1000000], .bool true), (.bin .geq 3 3, [sy 1, .int .i64 (-1000000)], .bool true), (.bin .leq 3 3, [sy 3, .int .i64 1000000], .bool true), (.bin .geq 3 3, [sy 3, .int .i64 (-1000000)], .bool true), (.bin .leq 3 3, [sy 0, .int .i64 1000000], .bool true), (.bin .geq 3 3, [sy 0, .int .i64 (-1000000)], .bool true)], [], .int .i64 6)
set_option maxRecDepth 1000000 in
theorem box_Check.x5 : box_Check.run box_Check.r5 = true := by kernel_rfl
def box_Check.r6 : Row := ([], [(.bin .leq 3 3, [sy 2, .int .i64 1000000], .bool false), (.bin .geq 3 3, [sy 2, .int .i64 (-1000000)], .bool true), (.bin .leq 3 3, [sy 4, .int .i64 1000000], .bool true), (.bin .geq 3 3, [sy 4, .int .i64 (-1000000)], .bool true), (.bin .leq 3 3, [sy 1, .int .i64 1000000], .bool true), (.bin .geq 3 3, [sy 1, .int .i64 (-1000000)], .bool true), (.bin .leq 3 3, [sy 3, .int .i64 1000000], .bool true), (.bin .geq 3 3, [sy 3, .int .i64 (-1000000)], .bool true), (.bin .leq 3 3, [sy 0, .int .i64 1000000], .bool true), (.bin .geq 3 3, [sy 0, .int .i64 (-1000000)], .bool true)], [], .int .i64 6)
set_option maxRecDepth 1000000 in
theorem box_Check.x6 : box_Check.run box_Check.r6 = true := by kernel_rfl
def box_Check.r7 : Row := ([], [(.bin .geq 3 3, [sy 2, .int .i64 (-1000000)], .bool false), (.bin .leq 3 3, [sy 4, .int .i64 1000000], .bool true), (.bin .geq 3 3, [sy 4, .int .i64 (-1000000)], .bool true), (.bin .leq 3 3, [sy 1, .int .i64 1000000], .bool true), (.bin .geq 3 3, [sy 1, .int .i64 (-1000000)], .bool true), (.bin .leq 3 3, [sy 3, .int .i64 1000000], .bool true), (.bin .geq 3 3, [sy 3, .int .i64 (-1000000)], .bool true), (.bin .leq 3 3, [sy 0, .int .i64 1000000], .bool true), (.bin .geq 3 3, [sy 0, .int .i64 (-1000000)], .bool true)], [], .int .i64 6)
set_option maxRecDepth 1000000 in
theorem box_Check.x7 : box_Check.run box_Check.r7 = true := by kernel_rfl
def box_Check.r8 : Row := ([], [(.bin .leq 3 3, [sy 4, .int .i64 1000000], .bool false), (.bin .geq 3 3, [sy 4, .int .i64 (-1000000)], .bool true), (.bin .leq 3 3, [sy 1, .int .i64 1000000], .bool true), (.bin .geq 3 3, [sy 1, .int .i64 (-1000000)], .bool true), (.bin .leq 3 3, [sy 3, .int .i64 1000000], .bool true), (.bin .geq 3 3, [sy 3, .int .i64 (-1000000)], .bool true), (.bin .leq 3 3, [sy 0, .int .i64 1000000], .bool true), (.bin .geq 3 3, [sy 0, .int .i64 (-1000000)], .bool true)], [], .int .i64 6)
set_option maxRecDepth 1000000 in
theorem box_Check.x8 : box_Check.run box_Check.r8 = true := by kernel_rfl
def box_Check.r9 : Row := ([], [(.bin .geq 3 3, [sy 4, .int .i64 (-1000000)], .bool false), (.bin .leq 3 3, [sy 1, .int .i64 1000000], .bool true), (.bin .geq 3 3, [sy 1, .int .i64 (-1000000)], .bool true), (.bin .leq 3 3, [sy 3, .int .i64 1000000], .bool true), (.bin .geq 3 3, [sy 3, .int .i64 (-1000000)], .bool true), (.bin .leq 3 3, [sy 0, .int .i64 1000000], .bool true), (.bin .geq 3 3, [sy 0, .int .i64 (-1000000)], .bool true)], [], .int .i64 6)
set_option maxRecDepth 1000000 in
theorem box_Check.x9 : box_Check.run box_Check.r9 = true := by kernel_rfl
def box_Check.r10 : Row := ([], [(.bin .leq 3 3, [sy 1, .int .i64 1000000], .bool false), (.bin .geq 3 3, [sy 1, .int .i64 (-1000000)], .bool true), (.bin .leq 3 3, [sy 3, .int .i64 1000000], .bool true), (.bin .geq 3 3, [sy 3, .int .i64 (-1000000)], .bool true), (.bin .leq 3 3, [sy 0, .int .i64 1000000], .bool true), (.bin .geq 3 3, [sy 0, .int .i64 (-1000000)], .bool true)], [], .int .i64 6)
set_option maxRecDepth 1000000 in
theorem box_Check.x10 : box_Check.run box_Check.r10 = true := by kernel_rfl
def box_Check.r11 : Row := ([], [(.bin .geq 3 3, [sy 1, .int .i64 (-1000000)], .bool false), (.bin .leq 3 3, [sy 3, .int .i64 1000000], .bool true), (.bin .geq 3 3, [sy 3, .int .i64 (-1000000)], .bool true), (.bin .leq 3 3, [sy 0, .int .i64 1000000], .bool true), (.bin .geq 3 3, [sy 0, .int .i64 (-1000000)], .bool true)], [], .int .i64 6)
set_option maxRecDepth 1000000 in
theorem box_Check.x11 : box_Check.run box_Check.r11 = true := by kernel_rfl
def box_Check.r12 : Row := ([], [(.bin .leq 3 3, [sy 3, .int .i64 1000000], .bool false), (.bin .geq 3 3, [sy 3, .int .i64 (-1000000)], .bool true), (.bin .leq 3 3, [sy 0, .int .i64 1000000], .bool true), (.bin .geq 3 3, [sy 0, .int .i64 (-1000000)], .bool true)], [], .int .i64 6)
set_option maxRecDepth 1000000 in
theorem box_Check.x12 : box_Check.run box_Check.r12 = true := by kernel_rfl
def box_Check.r13 : Row := ([], [(.bin .geq 3 3, [sy 3, .int .i64 (-1000000)], .bool false), (.bin .leq 3 3, [sy 0, .int .i64 1000000], .bool true), (.bin .geq 3 3, [sy 0, .int .i64 (-1000000)], .bool true)], [], .int .i64 6)
set_option maxRecDepth 1000000 in
theorem box_Check.x13 : box_Check.run box_Check.r13 = true := by kernel_rfl
def box_Check.r14 : Row := ([], [(.bin .leq 3 3, [sy 0, .int .i64 1000000], .bool false), (.bin .geq 3 3, [sy 0, .int .i64 (-1000000)], .bool true)], [], .int .i64 6)
set_option maxRecDepth 1000000 in
theorem box_Check.x14 : box_Check.run box_Check.r14 = true := by kernel_rfl
def box_Check.r15 : Row := ([], [(.bin .geq 3 3, [sy 0, .int .i64 (-1000000)], .bool false)], [], .int .i64 6)
set_option maxRecDepth 1000000 in
theorem box_Check.x15 : box_Check.run box_Check.r15 = true := by kernel_rfl
set_option maxHeartbeats 8000000 in
set_option maxRecDepth 1000000 in
theorem box_Check.calls (a0_0 : Int) (a0_1 : Int) (a0_2 : Int) (a0_3 : Int) (a0_4 : Int) (a0_5 : Int) (r : Int) (w : World) (h : box_Check.f a0_0 a0_1 a0_2 a0_3 a0_4 a0_5 = some r) : Calls Tryz.prog 39 #[.agg #[.int .i64 a0_0, .int .i64 a0_1, .int .i64 a0_2, .int .i64 a0_3, .int .i64 a0_4, .int .i64 a0_5]] w fun e w' => e = .returned (.int .i64 r) ∧ Below w.heap.size w w' := by
  unfold box_Check.f at h
  by_cases h1 : a0_0 ≥ (-1000000)
  · rw [if_pos h1] at h
    by_cases h2 : a0_0 ≤ 1000000
    · rw [if_pos h2] at h
      by_cases h3 : a0_3 ≥ (-1000000)
      · rw [if_pos h3] at h
        by_cases h4 : a0_3 ≤ 1000000
        · rw [if_pos h4] at h
          by_cases h5 : a0_1 ≥ (-1000000)
          · rw [if_pos h5] at h
            by_cases h6 : a0_1 ≤ 1000000
            · rw [if_pos h6] at h
              by_cases h7 : a0_4 ≥ (-1000000)
              · rw [if_pos h7] at h
                by_cases h8 : a0_4 ≤ 1000000
                · rw [if_pos h8] at h
                  by_cases h9 : a0_2 ≥ (-1000000)
                  · rw [if_pos h9] at h
                    by_cases h10 : a0_2 ≤ 1000000
                    · rw [if_pos h10] at h
                      by_cases h11 : a0_5 ≥ (-1000000)
                      · rw [if_pos h11] at h
                        by_cases h12 : a0_5 ≤ 1000000
                        · rw [if_pos h12] at h
                          by_cases h13 : a0_0 ≥ a0_3
                          · rw [if_pos h13] at h
                            obtain rfl := Option.some.inj h
                            letI : Syms := symsOf [.int .i64 a0_0, .int .i64 a0_1, .int .i64 a0_2, .int .i64 a0_3, .int .i64 a0_4, .int .i64 a0_5] rfl
                            exact run_leaf (r := box_Check.r0) RunC.follows RunC.noNum box_Check.x0 trivial ⟨ks_geq true (decide_eq_true h13), ks_leq true (decide_eq_true h12), ks_geq true (decide_eq_true h11), ks_leq true (decide_eq_true h10), ks_geq true (decide_eq_true h9), ks_leq true (decide_eq_true h8), ks_geq true (decide_eq_true h7), ks_leq true (decide_eq_true h6), ks_geq true (decide_eq_true h5), ks_leq true (decide_eq_true h4), ks_geq true (decide_eq_true h3), ks_leq true (decide_eq_true h2), ks_geq true (decide_eq_true h1), trivial⟩ trivial rfl rfl w
                          · rw [if_neg h13] at h
                            by_cases h14 : a0_1 ≥ a0_4
                            · rw [if_pos h14] at h
                              obtain rfl := Option.some.inj h
                              letI : Syms := symsOf [.int .i64 a0_0, .int .i64 a0_1, .int .i64 a0_2, .int .i64 a0_3, .int .i64 a0_4, .int .i64 a0_5] rfl
                              exact run_leaf (r := box_Check.r1) RunC.follows RunC.noNum box_Check.x1 trivial ⟨ks_geq true (decide_eq_true h14), ks_geq false (decide_eq_false h13), ks_leq true (decide_eq_true h12), ks_geq true (decide_eq_true h11), ks_leq true (decide_eq_true h10), ks_geq true (decide_eq_true h9), ks_leq true (decide_eq_true h8), ks_geq true (decide_eq_true h7), ks_leq true (decide_eq_true h6), ks_geq true (decide_eq_true h5), ks_leq true (decide_eq_true h4), ks_geq true (decide_eq_true h3), ks_leq true (decide_eq_true h2), ks_geq true (decide_eq_true h1), trivial⟩ trivial rfl rfl w
                            · rw [if_neg h14] at h
                              by_cases h15 : a0_2 ≥ a0_5
                              · rw [if_pos h15] at h
                                obtain rfl := Option.some.inj h
                                letI : Syms := symsOf [.int .i64 a0_0, .int .i64 a0_1, .int .i64 a0_2, .int .i64 a0_3, .int .i64 a0_4, .int .i64 a0_5] rfl
                                exact run_leaf (r := box_Check.r2) RunC.follows RunC.noNum box_Check.x2 trivial ⟨ks_geq true (decide_eq_true h15), ks_geq false (decide_eq_false h14), ks_geq false (decide_eq_false h13), ks_leq true (decide_eq_true h12), ks_geq true (decide_eq_true h11), ks_leq true (decide_eq_true h10), ks_geq true (decide_eq_true h9), ks_leq true (decide_eq_true h8), ks_geq true (decide_eq_true h7), ks_leq true (decide_eq_true h6), ks_geq true (decide_eq_true h5), ks_leq true (decide_eq_true h4), ks_geq true (decide_eq_true h3), ks_leq true (decide_eq_true h2), ks_geq true (decide_eq_true h1), trivial⟩ trivial rfl rfl w
                              · rw [if_neg h15] at h
                                obtain rfl := Option.some.inj h
                                letI : Syms := symsOf [.int .i64 a0_0, .int .i64 a0_1, .int .i64 a0_2, .int .i64 a0_3, .int .i64 a0_4, .int .i64 a0_5] rfl
                                exact run_leaf (r := box_Check.r3) RunC.follows RunC.noNum box_Check.x3 trivial ⟨ks_geq false (decide_eq_false h15), ks_geq false (decide_eq_false h14), ks_geq false (decide_eq_false h13), ks_leq true (decide_eq_true h12), ks_geq true (decide_eq_true h11), ks_leq true (decide_eq_true h10), ks_geq true (decide_eq_true h9), ks_leq true (decide_eq_true h8), ks_geq true (decide_eq_true h7), ks_leq true (decide_eq_true h6), ks_geq true (decide_eq_true h5), ks_leq true (decide_eq_true h4), ks_geq true (decide_eq_true h3), ks_leq true (decide_eq_true h2), ks_geq true (decide_eq_true h1), trivial⟩ trivial rfl rfl w
                        · rw [if_neg h12] at h
                          obtain rfl := Option.some.inj h
                          letI : Syms := symsOf [.int .i64 a0_0, .int .i64 a0_1, .int .i64 a0_2, .int .i64 a0_3, .int .i64 a0_4, .int .i64 a0_5] rfl
                          exact run_leaf (r := box_Check.r4) RunC.follows RunC.noNum box_Check.x4 trivial ⟨ks_leq false (decide_eq_false h12), ks_geq true (decide_eq_true h11), ks_leq true (decide_eq_true h10), ks_geq true (decide_eq_true h9), ks_leq true (decide_eq_true h8), ks_geq true (decide_eq_true h7), ks_leq true (decide_eq_true h6), ks_geq true (decide_eq_true h5), ks_leq true (decide_eq_true h4), ks_geq true (decide_eq_true h3), ks_leq true (decide_eq_true h2), ks_geq true (decide_eq_true h1), trivial⟩ trivial rfl rfl w
                      · rw [if_neg h11] at h
                        obtain rfl := Option.some.inj h
                        letI : Syms := symsOf [.int .i64 a0_0, .int .i64 a0_1, .int .i64 a0_2, .int .i64 a0_3, .int .i64 a0_4, .int .i64 a0_5] rfl
                        exact run_leaf (r := box_Check.r5) RunC.follows RunC.noNum box_Check.x5 trivial ⟨ks_geq false (decide_eq_false h11), ks_leq true (decide_eq_true h10), ks_geq true (decide_eq_true h9), ks_leq true (decide_eq_true h8), ks_geq true (decide_eq_true h7), ks_leq true (decide_eq_true h6), ks_geq true (decide_eq_true h5), ks_leq true (decide_eq_true h4), ks_geq true (decide_eq_true h3), ks_leq true (decide_eq_true h2), ks_geq true (decide_eq_true h1), trivial⟩ trivial rfl rfl w
                    · rw [if_neg h10] at h
                      obtain rfl := Option.some.inj h
                      letI : Syms := symsOf [.int .i64 a0_0, .int .i64 a0_1, .int .i64 a0_2, .int .i64 a0_3, .int .i64 a0_4, .int .i64 a0_5] rfl
                      exact run_leaf (r := box_Check.r6) RunC.follows RunC.noNum box_Check.x6 trivial ⟨ks_leq false (decide_eq_false h10), ks_geq true (decide_eq_true h9), ks_leq true (decide_eq_true h8), ks_geq true (decide_eq_true h7), ks_leq true (decide_eq_true h6), ks_geq true (decide_eq_true h5), ks_leq true (decide_eq_true h4), ks_geq true (decide_eq_true h3), ks_leq true (decide_eq_true h2), ks_geq true (decide_eq_true h1), trivial⟩ trivial rfl rfl w
                  · rw [if_neg h9] at h
                    obtain rfl := Option.some.inj h
                    letI : Syms := symsOf [.int .i64 a0_0, .int .i64 a0_1, .int .i64 a0_2, .int .i64 a0_3, .int .i64 a0_4, .int .i64 a0_5] rfl
                    exact run_leaf (r := box_Check.r7) RunC.follows RunC.noNum box_Check.x7 trivial ⟨ks_geq false (decide_eq_false h9), ks_leq true (decide_eq_true h8), ks_geq true (decide_eq_true h7), ks_leq true (decide_eq_true h6), ks_geq true (decide_eq_true h5), ks_leq true (decide_eq_true h4), ks_geq true (decide_eq_true h3), ks_leq true (decide_eq_true h2), ks_geq true (decide_eq_true h1), trivial⟩ trivial rfl rfl w
                · rw [if_neg h8] at h
                  obtain rfl := Option.some.inj h
                  letI : Syms := symsOf [.int .i64 a0_0, .int .i64 a0_1, .int .i64 a0_2, .int .i64 a0_3, .int .i64 a0_4, .int .i64 a0_5] rfl
                  exact run_leaf (r := box_Check.r8) RunC.follows RunC.noNum box_Check.x8 trivial ⟨ks_leq false (decide_eq_false h8), ks_geq true (decide_eq_true h7), ks_leq true (decide_eq_true h6), ks_geq true (decide_eq_true h5), ks_leq true (decide_eq_true h4), ks_geq true (decide_eq_true h3), ks_leq true (decide_eq_true h2), ks_geq true (decide_eq_true h1), trivial⟩ trivial rfl rfl w
              · rw [if_neg h7] at h
                obtain rfl := Option.some.inj h
                letI : Syms := symsOf [.int .i64 a0_0, .int .i64 a0_1, .int .i64 a0_2, .int .i64 a0_3, .int .i64 a0_4, .int .i64 a0_5] rfl
                exact run_leaf (r := box_Check.r9) RunC.follows RunC.noNum box_Check.x9 trivial ⟨ks_geq false (decide_eq_false h7), ks_leq true (decide_eq_true h6), ks_geq true (decide_eq_true h5), ks_leq true (decide_eq_true h4), ks_geq true (decide_eq_true h3), ks_leq true (decide_eq_true h2), ks_geq true (decide_eq_true h1), trivial⟩ trivial rfl rfl w
            · rw [if_neg h6] at h
              obtain rfl := Option.some.inj h
              letI : Syms := symsOf [.int .i64 a0_0, .int .i64 a0_1, .int .i64 a0_2, .int .i64 a0_3, .int .i64 a0_4, .int .i64 a0_5] rfl
              exact run_leaf (r := box_Check.r10) RunC.follows RunC.noNum box_Check.x10 trivial ⟨ks_leq false (decide_eq_false h6), ks_geq true (decide_eq_true h5), ks_leq true (decide_eq_true h4), ks_geq true (decide_eq_true h3), ks_leq true (decide_eq_true h2), ks_geq true (decide_eq_true h1), trivial⟩ trivial rfl rfl w
          · rw [if_neg h5] at h
            obtain rfl := Option.some.inj h
            letI : Syms := symsOf [.int .i64 a0_0, .int .i64 a0_1, .int .i64 a0_2, .int .i64 a0_3, .int .i64 a0_4, .int .i64 a0_5] rfl
            exact run_leaf (r := box_Check.r11) RunC.follows RunC.noNum box_Check.x11 trivial ⟨ks_geq false (decide_eq_false h5), ks_leq true (decide_eq_true h4), ks_geq true (decide_eq_true h3), ks_leq true (decide_eq_true h2), ks_geq true (decide_eq_true h1), trivial⟩ trivial rfl rfl w
        · rw [if_neg h4] at h
          obtain rfl := Option.some.inj h
          letI : Syms := symsOf [.int .i64 a0_0, .int .i64 a0_1, .int .i64 a0_2, .int .i64 a0_3, .int .i64 a0_4, .int .i64 a0_5] rfl
          exact run_leaf (r := box_Check.r12) RunC.follows RunC.noNum box_Check.x12 trivial ⟨ks_leq false (decide_eq_false h4), ks_geq true (decide_eq_true h3), ks_leq true (decide_eq_true h2), ks_geq true (decide_eq_true h1), trivial⟩ trivial rfl rfl w
      · rw [if_neg h3] at h
        obtain rfl := Option.some.inj h
        letI : Syms := symsOf [.int .i64 a0_0, .int .i64 a0_1, .int .i64 a0_2, .int .i64 a0_3, .int .i64 a0_4, .int .i64 a0_5] rfl
        exact run_leaf (r := box_Check.r13) RunC.follows RunC.noNum box_Check.x13 trivial ⟨ks_geq false (decide_eq_false h3), ks_leq true (decide_eq_true h2), ks_geq true (decide_eq_true h1), trivial⟩ trivial rfl rfl w
    · rw [if_neg h2] at h
      obtain rfl := Option.some.inj h
      letI : Syms := symsOf [.int .i64 a0_0, .int .i64 a0_1, .int .i64 a0_2, .int .i64 a0_3, .int .i64 a0_4, .int .i64 a0_5] rfl
      exact run_leaf (r := box_Check.r14) RunC.follows RunC.noNum box_Check.x14 trivial ⟨ks_leq false (decide_eq_false h2), ks_geq true (decide_eq_true h1), trivial⟩ trivial rfl rfl w
  · rw [if_neg h1] at h
    obtain rfl := Option.some.inj h
    letI : Syms := symsOf [.int .i64 a0_0, .int .i64 a0_1, .int .i64 a0_2, .int .i64 a0_3, .int .i64 a0_4, .int .i64 a0_5] rfl
    exact run_leaf (r := box_Check.r15) RunC.follows RunC.noNum box_Check.x15 trivial ⟨ks_geq false (decide_eq_false h1), trivial⟩ trivial rfl rfl w
end Go.Proofs.YtfedmcehkpfciaaGreat.SymC
