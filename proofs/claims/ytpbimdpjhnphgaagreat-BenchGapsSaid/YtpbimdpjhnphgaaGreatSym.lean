/- What functions without slices return: the runner carries them out over symbols, path by path. -/
import Derived.Test.YtpbimdpjhnphgaaGreatRunC
import Derived.Test.YtpbimdpjhnphgaaGreatProg
import Derived.KernelRfl
import Derived.Test.YtpbimdpjhnphgaaGreatM1
import Derived.Test.YtpbimdpjhnphgaaGreatAwk
set_option linter.unusedVariables false
set_option linter.unusedSimpArgs false
namespace Go.Proofs.YtpbimdpjhnphgaaGreat.Sym
open Go.RowKit Go.Proofs.YtpbimdpjhnphgaaGreatW.PrintWords Go.Proofs.YtpbimdpjhnphgaaGreatW.PrintMore Go.Proofs.YtpbimdpjhnphgaaGreat.Run Go.Proofs.YtpbimdpjhnphgaaGreat.RunC Go.Proofs.YtpbimdpjhnphgaaGreat.Awk
theorem ks_max3 [Syms] {P : Program} {k : IntKind} {a b c : Int} {ts : List TypeId} : KeySem P (.bi .max ts) [.int k a, .int k b, .int k c] (.int k (if (if a < b then b else a) < c then c else if a < b then b else a)) := ks_bi fun ty cs => by
  simp [builtin, Builtin.max_, Builtin.max2]
def gangsawlaw17_fits.f (a0_0 : Int) (a0_1 : Int) (a0_2 : Int) (a0_3 : Int) (a0_4 : Int) (a0_5 : Int) : Option (Bool) :=
  if a0_0 < (-1000000) then (some false) else (if a0_0 > 1000000 then (some false) else (if a0_1 < (-1000000) then (some false) else (if a0_1 > 1000000 then (some false) else (if a0_2 < (-1000000) then (some false) else (if a0_2 > 1000000 then (some false) else (if a0_3 < (-1000000) then (some false) else (if a0_3 > 1000000 then (some false) else (if a0_4 < (-1000000) then (some false) else (if a0_4 > 1000000 then (some false) else (if a0_5 < (-1000000) then (some false) else (if a0_5 > 1000000 then (some false) else (some true))))))))))))
noncomputable def gangsawlaw17_fits.run (r : Row) : Bool := saysV (xcall Tryz.prog 0 10000 (orcOf r.1 r.2.1 r.2.2.1) 40 0 (.fn 18) [.agg ⟨[sy 0, sy 1, sy 2, sy 3, sy 4, sy 5]⟩] ⟨.leaf, 0⟩) r.2.2.2
def gangsawlaw17_fits.r0 : Row := ([], [(.bin .lss 3 3, [sy 0, .int .i64 (-1000000)], .bool true)], [], .bool false)
set_option maxRecDepth 1000000 in
theorem gangsawlaw17_fits.x0 : gangsawlaw17_fits.run gangsawlaw17_fits.r0 = true := by kernel_rfl
def gangsawlaw17_fits.r1 : Row := ([], [(.bin .gtr 3 3, [sy 0, .int .i64 1000000], .bool true), (.bin .lss 3 3, [sy 0, .int .i64 (-1000000)], .bool false)], [], .bool false)
set_option maxRecDepth 1000000 in
theorem gangsawlaw17_fits.x1 : gangsawlaw17_fits.run gangsawlaw17_fits.r1 = true := by kernel_rfl
def gangsawlaw17_fits.r2 : Row := ([], [(.bin .lss 3 3, [sy 1, .int .i64 (-1000000)], .bool true), (.bin .gtr 3 3, [sy 0, .int .i64 1000000], .bool false), (.bin .lss 3 3, [sy 0, .int .i64 (-1000000)], .bool false)], [], .bool false)
set_option maxRecDepth 1000000 in
theorem gangsawlaw17_fits.x2 : gangsawlaw17_fits.run gangsawlaw17_fits.r2 = true := by kernel_rfl
def gangsawlaw17_fits.r3 : Row := ([], [(.bin .gtr 3 3, [sy 1, .int .i64 1000000], .bool true), (.bin .lss 3 3, [sy 1, .int .i64 (-1000000)], .bool false), (.bin .gtr 3 3, [sy 0, .int .i64 1000000], .bool false), (.bin .lss 3 3, [sy 0, .int .i64 (-1000000)], .bool false)], [], .bool false)
set_option maxRecDepth 1000000 in
theorem gangsawlaw17_fits.x3 : gangsawlaw17_fits.run gangsawlaw17_fits.r3 = true := by kernel_rfl
def gangsawlaw17_fits.r4 : Row := ([], [(.bin .lss 3 3, [sy 2, .int .i64 (-1000000)], .bool true), (.bin .gtr 3 3, [sy 1, .int .i64 1000000], .bool false), (.bin .lss 3 3, [sy 1, .int .i64 (-1000000)], .bool false), (.bin .gtr 3 3, [sy 0, .int .i64 1000000], .bool false), (.bin .lss 3 3, [sy 0, .int .i64 (-1000000)], .bool false)], [], .bool false)
set_option maxRecDepth 1000000 in
theorem gangsawlaw17_fits.x4 : gangsawlaw17_fits.run gangsawlaw17_fits.r4 = true := by kernel_rfl
def gangsawlaw17_fits.r5 : Row := ([], [(.bin .gtr 3 3, [sy 2, .int .i64 1000000], .bool true), (.bin .lss 3 3, [sy 2, .int .i64 (-1000000)], .bool false), (.bin .gtr 3 3, [sy 1, .int .i64 1000000], .bool false), (.bin .lss 3 3, [sy 1, .int .i64 (-1000000)], .bool false), (.bin .gtr 3 3, [sy 0, .int .i64 1000000], .bool false), (.bin .lss 3 3, [sy 0, .int .i64 (-1000000)], .bool false)], [], .bool false)
set_option maxRecDepth 1000000 in
theorem gangsawlaw17_fits.x5 : gangsawlaw17_fits.run gangsawlaw17_fits.r5 = true := by kernel_rfl
def gangsawlaw17_fits.r6 : Row := ([], [(.bin .lss 3 3, [sy 3, .int .i64 (-1000000)], .bool true), (.bin .gtr 3 3, [sy 2, .int .i64 1000000], .bool false), (.bin .lss 3 3, [sy 2, .int .i64 (-1000000)], .bool false), (.bin .gtr 3 3, [sy 1, .int .i64 1000000], .bool false), (.bin .lss 3 3, [sy 1, .int .i64 (-1000000)], .bool false), (.bin .gtr 3 3, [sy 0, .int .i64 1000000], .bool false), (.bin .lss 3 3, [sy 0, .int .i64 (-1000000)], .bool false)], [], .bool false)
set_option maxRecDepth 1000000 in
theorem gangsawlaw17_fits.x6 : gangsawlaw17_fits.run gangsawlaw17_fits.r6 = true := by kernel_rfl
def gangsawlaw17_fits.r7 : Row := ([], [(.bin .gtr 3 3, [sy 3, .int .i64 1000000], .bool true), (.bin .lss 3 3, [sy 3, .int .i64 (-1000000)], .bool false), (.bin .gtr 3 3, [sy 2, .int .i64 1000000], .bool false), (.bin .lss 3 3, [sy 2, .int .i64 (-1000000)], .bool false), (.bin .gtr 3 3, [sy 1, .int .i64 1000000], .bool false), (.bin .lss 3 3, [sy 1, .int .i64 (-1000000)], .bool false), (.bin .gtr 3 3, [sy 0, .int .i64 1000000], .bool false), (.bin .lss 3 3, [sy 0, .int .i64 (-1000000)], .bool false)], [], .bool false)
set_option maxRecDepth 1000000 in
theorem gangsawlaw17_fits.x7 : gangsawlaw17_fits.run gangsawlaw17_fits.r7 = true := by kernel_rfl
def gangsawlaw17_fits.r8 : Row := ([], [(.bin .lss 3 3, [sy 4, .int .i64 (-1000000)], .bool true), (.bin .gtr 3 3, [sy 3, .int .i64 1000000], .bool false), (.bin .lss 3 3, [sy 3, .int .i64 (-1000000)], .bool false), (.bin .gtr 3 3, [sy 2, .int .i64 1000000], .bool false), (.bin .lss 3 3, [sy 2, .int .i64 (-1000000)], .bool false), (.bin .gtr 3 3, [sy 1, .int .i64 1000000], .bool false), (.bin .lss 3 3, [sy 1, .int .i64 (-1000000)], .bool false), (.bin .gtr 3 3, [sy 0, .int .i64 1000000], .bool false), (.bin .lss 3 3, [sy 0, .int .i64 (-1000000)], .bool false)], [], .bool false)
set_option maxRecDepth 1000000 in
theorem gangsawlaw17_fits.x8 : gangsawlaw17_fits.run gangsawlaw17_fits.r8 = true := by kernel_rfl
def gangsawlaw17_fits.r9 : Row := ([], [(.bin .gtr 3 3, [sy 4, .int .i64 1000000], .bool true), (.bin .lss 3 3, [sy 4, .int .i64 (-1000000)], .bool false), (.bin .gtr 3 3, [sy 3, .int .i64 1000000], .bool false), (.bin .lss 3 3, [sy 3, .int .i64 (-1000000)], .bool false), (.bin .gtr 3 3, [sy 2, .int .i64 1000000], .bool false), (.bin .lss 3 3, [sy 2, .int .i64 (-1000000)], .bool false), (.bin .gtr 3 3, [sy 1, .int .i64 1000000], .bool false), (.bin .lss 3 3, [sy 1, .int .i64 (-1000000)], .bool false), (.bin .gtr 3 3, [sy 0, .int .i64 1000000], .bool false), (.bin .lss 3 3, [sy 0, .int .i64 (-1000000)], .bool false)], [], .bool false)
set_option maxRecDepth 1000000 in
theorem gangsawlaw17_fits.x9 : gangsawlaw17_fits.run gangsawlaw17_fits.r9 = true := by kernel_rfl
def gangsawlaw17_fits.r10 : Row := ([], [(.bin .lss 3 3, [sy 5, .int .i64 (-1000000)], .bool true), (.bin .gtr 3 3, [sy 4, .int .i64 1000000], .bool false), (.bin .lss 3 3, [sy 4, .int .i64 (-1000000)], .bool false), (.bin .gtr 3 3, [sy 3, .int .i64 1000000], .bool false), (.bin .lss 3 3, [sy 3, .int .i64 (-1000000)], .bool false), (.bin .gtr 3 3, [sy 2, .int .i64 1000000], .bool false), (.bin .lss 3 3, [sy 2, .int .i64 (-1000000)], .bool false), (.bin .gtr 3 3, [sy 1, .int .i64 1000000], .bool false), (.bin .lss 3 3, [sy 1, .int .i64 (-1000000)], .bool false), (.bin .gtr 3 3, [sy 0, .int .i64 1000000], .bool false), (.bin .lss 3 3, [sy 0, .int .i64 (-1000000)], .bool false)], [], .bool false)
set_option maxRecDepth 1000000 in
theorem gangsawlaw17_fits.x10 : gangsawlaw17_fits.run gangsawlaw17_fits.r10 = true := by kernel_rfl
def gangsawlaw17_fits.r11 : Row := ([], [(.bin .gtr 3 3, [sy 5, .int .i64 1000000], .bool true), (.bin .lss 3 3, [sy 5, .int .i64 (-1000000)], .bool false), (.bin .gtr 3 3, [sy 4, .int .i64 1000000], .bool false), (.bin .lss 3 3, [sy 4, .int .i64 (-1000000)], .bool false), (.bin .gtr 3 3, [sy 3, .int .i64 1000000], .bool false), (.bin .lss 3 3, [sy 3, .int .i64 (-1000000)], .bool false), (.bin .gtr 3 3, [sy 2, .int .i64 1000000], .bool false), (.bin .lss 3 3, [sy 2, .int .i64 (-1000000)], .bool false), (.bin .gtr 3 3, [sy 1, .int .i64 1000000], .bool false), (.bin .lss 3 3, [sy 1, .int .i64 (-1000000)], .bool false), (.bin .gtr 3 3, [sy 0, .int .i64 1000000], .bool false), (.bin .lss 3 3, [sy 0, .int .i64 (-1000000)], .bool false)], [], .bool false)
set_option maxRecDepth 1000000 in
theorem gangsawlaw17_fits.x11 : gangsawlaw17_fits.run gangsawlaw17_fits.r11 = true := by kernel_rfl
def gangsawlaw17_fits.r12 : Row := ([], [(.bin .gtr 3 3, [sy 5, .int .i64 1000000], .bool false), (.bin .lss 3 3, [sy 5, .int .i64 (-1000000)], .bool false), (.bin .gtr 3 3, [sy 4, .int .i64 1000000], .bool false), (.bin .lss 3 3, [sy 4, .int .i64 (-1000000)], .bool false), (.bin .gtr 3 3, [sy 3, .int .i64 1000000], .bool false), (.bin .lss 3 3, [sy 3, .int .i64 (-1000000)], .bool false), (.bin .gtr 3 3, [sy 2, .int .i64 1000000], .bool false), (.bin .lss 3 3, [sy 2, .int .i64 (-1000000)], .bool false), (.bin .gtr 3 3, [sy 1, .int .i64 1000000], .bool false), (.bin .lss 3 3, [sy 1, .int .i64 (-1000000)], .bool false), (.bin .gtr 3 3, [sy 0, .int .i64 1000000], .bool false), (.bin .lss 3 3, [sy 0, .int .i64 (-1000000)], .bool false)], [], .bool true)
set_option maxRecDepth 1000000 in
theorem gangsawlaw17_fits.x12 : gangsawlaw17_fits.run gangsawlaw17_fits.r12 = true := by kernel_rfl
theorem gangsawlaw17_fits.calls (a0_0 : Int) (a0_1 : Int) (a0_2 : Int) (a0_3 : Int) (a0_4 : Int) (a0_5 : Int) (r : Bool) (w : World) (h : gangsawlaw17_fits.f a0_0 a0_1 a0_2 a0_3 a0_4 a0_5 = some r) : Calls Tryz.prog 18 #[.agg #[.int .i64 a0_0, .int .i64 a0_1, .int .i64 a0_2, .int .i64 a0_3, .int .i64 a0_4, .int .i64 a0_5]] w fun e w' => e = .returned (.bool r) ∧ Below w.heap.size w w' := by
  unfold gangsawlaw17_fits.f at h
  by_cases h1 : a0_0 < (-1000000)
  · rw [if_pos h1] at h
    obtain rfl := Option.some.inj h
    letI : Syms := symsOf [.int .i64 a0_0, .int .i64 a0_1, .int .i64 a0_2, .int .i64 a0_3, .int .i64 a0_4, .int .i64 a0_5] rfl
    exact run_leaf (r := gangsawlaw17_fits.r0) RunC.follows RunC.noNum gangsawlaw17_fits.x0 trivial ⟨ks_lss true (decide_eq_true h1), trivial⟩ trivial rfl rfl w
  · rw [if_neg h1] at h
    by_cases h2 : a0_0 > 1000000
    · rw [if_pos h2] at h
      obtain rfl := Option.some.inj h
      letI : Syms := symsOf [.int .i64 a0_0, .int .i64 a0_1, .int .i64 a0_2, .int .i64 a0_3, .int .i64 a0_4, .int .i64 a0_5] rfl
      exact run_leaf (r := gangsawlaw17_fits.r1) RunC.follows RunC.noNum gangsawlaw17_fits.x1 trivial ⟨ks_gtr true (decide_eq_true h2), ks_lss false (decide_eq_false h1), trivial⟩ trivial rfl rfl w
    · rw [if_neg h2] at h
      by_cases h3 : a0_1 < (-1000000)
      · rw [if_pos h3] at h
        obtain rfl := Option.some.inj h
        letI : Syms := symsOf [.int .i64 a0_0, .int .i64 a0_1, .int .i64 a0_2, .int .i64 a0_3, .int .i64 a0_4, .int .i64 a0_5] rfl
        exact run_leaf (r := gangsawlaw17_fits.r2) RunC.follows RunC.noNum gangsawlaw17_fits.x2 trivial ⟨ks_lss true (decide_eq_true h3), ks_gtr false (decide_eq_false h2), ks_lss false (decide_eq_false h1), trivial⟩ trivial rfl rfl w
      · rw [if_neg h3] at h
        by_cases h4 : a0_1 > 1000000
        · rw [if_pos h4] at h
          obtain rfl := Option.some.inj h
          letI : Syms := symsOf [.int .i64 a0_0, .int .i64 a0_1, .int .i64 a0_2, .int .i64 a0_3, .int .i64 a0_4, .int .i64 a0_5] rfl
          exact run_leaf (r := gangsawlaw17_fits.r3) RunC.follows RunC.noNum gangsawlaw17_fits.x3 trivial ⟨ks_gtr true (decide_eq_true h4), ks_lss false (decide_eq_false h3), ks_gtr false (decide_eq_false h2), ks_lss false (decide_eq_false h1), trivial⟩ trivial rfl rfl w
        · rw [if_neg h4] at h
          by_cases h5 : a0_2 < (-1000000)
          · rw [if_pos h5] at h
            obtain rfl := Option.some.inj h
            letI : Syms := symsOf [.int .i64 a0_0, .int .i64 a0_1, .int .i64 a0_2, .int .i64 a0_3, .int .i64 a0_4, .int .i64 a0_5] rfl
            exact run_leaf (r := gangsawlaw17_fits.r4) RunC.follows RunC.noNum gangsawlaw17_fits.x4 trivial ⟨ks_lss true (decide_eq_true h5), ks_gtr false (decide_eq_false h4), ks_lss false (decide_eq_false h3), ks_gtr false (decide_eq_false h2), ks_lss false (decide_eq_false h1), trivial⟩ trivial rfl rfl w
          · rw [if_neg h5] at h
            by_cases h6 : a0_2 > 1000000
            · rw [if_pos h6] at h
              obtain rfl := Option.some.inj h
              letI : Syms := symsOf [.int .i64 a0_0, .int .i64 a0_1, .int .i64 a0_2, .int .i64 a0_3, .int .i64 a0_4, .int .i64 a0_5] rfl
              exact run_leaf (r := gangsawlaw17_fits.r5) RunC.follows RunC.noNum gangsawlaw17_fits.x5 trivial ⟨ks_gtr true (decide_eq_true h6), ks_lss false (decide_eq_false h5), ks_gtr false (decide_eq_false h4), ks_lss false (decide_eq_false h3), ks_gtr false (decide_eq_false h2), ks_lss false (decide_eq_false h1), trivial⟩ trivial rfl rfl w
            · rw [if_neg h6] at h
              by_cases h7 : a0_3 < (-1000000)
              · rw [if_pos h7] at h
                obtain rfl := Option.some.inj h
                letI : Syms := symsOf [.int .i64 a0_0, .int .i64 a0_1, .int .i64 a0_2, .int .i64 a0_3, .int .i64 a0_4, .int .i64 a0_5] rfl
                exact run_leaf (r := gangsawlaw17_fits.r6) RunC.follows RunC.noNum gangsawlaw17_fits.x6 trivial ⟨ks_lss true (decide_eq_true h7), ks_gtr false (decide_eq_false h6), ks_lss false (decide_eq_false h5), ks_gtr false (decide_eq_false h4), ks_lss false (decide_eq_false h3), ks_gtr false (decide_eq_false h2), ks_lss false (decide_eq_false h1), trivial⟩ trivial rfl rfl w
              · rw [if_neg h7] at h
                by_cases h8 : a0_3 > 1000000
                · rw [if_pos h8] at h
                  obtain rfl := Option.some.inj h
                  letI : Syms := symsOf [.int .i64 a0_0, .int .i64 a0_1, .int .i64 a0_2, .int .i64 a0_3, .int .i64 a0_4, .int .i64 a0_5] rfl
                  exact run_leaf (r := gangsawlaw17_fits.r7) RunC.follows RunC.noNum gangsawlaw17_fits.x7 trivial ⟨ks_gtr true (decide_eq_true h8), ks_lss false (decide_eq_false h7), ks_gtr false (decide_eq_false h6), ks_lss false (decide_eq_false h5), ks_gtr false (decide_eq_false h4), ks_lss false (decide_eq_false h3), ks_gtr false (decide_eq_false h2), ks_lss false (decide_eq_false h1), trivial⟩ trivial rfl rfl w
                · rw [if_neg h8] at h
                  by_cases h9 : a0_4 < (-1000000)
                  · rw [if_pos h9] at h
                    obtain rfl := Option.some.inj h
                    letI : Syms := symsOf [.int .i64 a0_0, .int .i64 a0_1, .int .i64 a0_2, .int .i64 a0_3, .int .i64 a0_4, .int .i64 a0_5] rfl
                    exact run_leaf (r := gangsawlaw17_fits.r8) RunC.follows RunC.noNum gangsawlaw17_fits.x8 trivial ⟨ks_lss true (decide_eq_true h9), ks_gtr false (decide_eq_false h8), ks_lss false (decide_eq_false h7), ks_gtr false (decide_eq_false h6), ks_lss false (decide_eq_false h5), ks_gtr false (decide_eq_false h4), ks_lss false (decide_eq_false h3), ks_gtr false (decide_eq_false h2), ks_lss false (decide_eq_false h1), trivial⟩ trivial rfl rfl w
                  · rw [if_neg h9] at h
                    by_cases h10 : a0_4 > 1000000
                    · rw [if_pos h10] at h
                      obtain rfl := Option.some.inj h
                      letI : Syms := symsOf [.int .i64 a0_0, .int .i64 a0_1, .int .i64 a0_2, .int .i64 a0_3, .int .i64 a0_4, .int .i64 a0_5] rfl
                      exact run_leaf (r := gangsawlaw17_fits.r9) RunC.follows RunC.noNum gangsawlaw17_fits.x9 trivial ⟨ks_gtr true (decide_eq_true h10), ks_lss false (decide_eq_false h9), ks_gtr false (decide_eq_false h8), ks_lss false (decide_eq_false h7), ks_gtr false (decide_eq_false h6), ks_lss false (decide_eq_false h5), ks_gtr false (decide_eq_false h4), ks_lss false (decide_eq_false h3), ks_gtr false (decide_eq_false h2), ks_lss false (decide_eq_false h1), trivial⟩ trivial rfl rfl w
                    · rw [if_neg h10] at h
                      by_cases h11 : a0_5 < (-1000000)
                      · rw [if_pos h11] at h
                        obtain rfl := Option.some.inj h
                        letI : Syms := symsOf [.int .i64 a0_0, .int .i64 a0_1, .int .i64 a0_2, .int .i64 a0_3, .int .i64 a0_4, .int .i64 a0_5] rfl
                        exact run_leaf (r := gangsawlaw17_fits.r10) RunC.follows RunC.noNum gangsawlaw17_fits.x10 trivial ⟨ks_lss true (decide_eq_true h11), ks_gtr false (decide_eq_false h10), ks_lss false (decide_eq_false h9), ks_gtr false (decide_eq_false h8), ks_lss false (decide_eq_false h7), ks_gtr false (decide_eq_false h6), ks_lss false (decide_eq_false h5), ks_gtr false (decide_eq_false h4), ks_lss false (decide_eq_false h3), ks_gtr false (decide_eq_false h2), ks_lss false (decide_eq_false h1), trivial⟩ trivial rfl rfl w
                      · rw [if_neg h11] at h
                        by_cases h12 : a0_5 > 1000000
                        · rw [if_pos h12] at h
                          obtain rfl := Option.some.inj h
                          letI : Syms := symsOf [.int .i64 a0_0, .int .i64 a0_1, .int .i64 a0_2, .int .i64 a0_3, .int .i64 a0_4, .int .i64 a0_5] rfl
                          exact run_leaf (r := gangsawlaw17_fits.r11) RunC.follows RunC.noNum gangsawlaw17_fits.x11 trivial ⟨ks_gtr true (decide_eq_true h12), ks_lss false (decide_eq_false h11), ks_gtr false (decide_eq_false h10), ks_lss false (decide_eq_false h9), ks_gtr false (decide_eq_false h8), ks_lss false (decide_eq_false h7), ks_gtr false (decide_eq_false h6), ks_lss false (decide_eq_false h5), ks_gtr false (decide_eq_false h4), ks_lss false (decide_eq_false h3), ks_gtr false (decide_eq_false h2), ks_lss false (decide_eq_false h1), trivial⟩ trivial rfl rfl w
                        · rw [if_neg h12] at h
                          obtain rfl := Option.some.inj h
                          letI : Syms := symsOf [.int .i64 a0_0, .int .i64 a0_1, .int .i64 a0_2, .int .i64 a0_3, .int .i64 a0_4, .int .i64 a0_5] rfl
                          exact run_leaf (r := gangsawlaw17_fits.r12) RunC.follows RunC.noNum gangsawlaw17_fits.x12 trivial ⟨ks_gtr false (decide_eq_false h12), ks_lss false (decide_eq_false h11), ks_gtr false (decide_eq_false h10), ks_lss false (decide_eq_false h9), ks_gtr false (decide_eq_false h8), ks_lss false (decide_eq_false h7), ks_gtr false (decide_eq_false h6), ks_lss false (decide_eq_false h5), ks_gtr false (decide_eq_false h4), ks_lss false (decide_eq_false h3), ks_gtr false (decide_eq_false h2), ks_lss false (decide_eq_false h1), trivial⟩ trivial rfl rfl w
def bench_Gap.f (a0_0 : Int) (a0_1 : Int) (a0_2 : Int) (a0_3 : Int) (a0_4 : Int) (a0_5 : Int) (a1_0 : Int) (a1_1 : Int) (a1_2 : Int) (a1_3 : Int) (a1_4 : Int) (a1_5 : Int) : Option (Int) :=
  some (mx (mx (mx (wrap64 (a0_0 - a1_3)) (wrap64 (a1_0 - a0_3))) 0) (mx (mx (wrap64 (a0_1 - a1_4)) (wrap64 (a1_1 - a0_4))) 0))
noncomputable def bench_Gap.run (r : Row) : Bool := saysV (xcall Tryz.prog 0 10000 (orcOf r.1 r.2.1 r.2.2.1) 40 0 (.fn 19) [.agg ⟨[sy 0, sy 1, sy 2, sy 3, sy 4, sy 5]⟩, .agg ⟨[sy 6, sy 7, sy 8, sy 9, sy 10, sy 11]⟩] ⟨.leaf, 0⟩) r.2.2.2
def bench_Gap.r0 : Row := ([], [(.bi .max [3, 3], [sy 14, sy 17], sy 18), (.bi .max [3, 3, 3], [sy 15, sy 16, .int .i64 0], sy 17), (.bin .sub 3 3, [sy 7, sy 4], sy 16), (.bin .sub 3 3, [sy 1, sy 10], sy 15), (.bi .max [3, 3, 3], [sy 12, sy 13, .int .i64 0], sy 14), (.bin .sub 3 3, [sy 6, sy 3], sy 13), (.bin .sub 3 3, [sy 0, sy 9], sy 12)], [], sy 18)
set_option maxRecDepth 1000000 in
theorem bench_Gap.x0 : bench_Gap.run bench_Gap.r0 = true := by kernel_rfl
theorem bench_Gap.calls (a0_0 : Int) (a0_1 : Int) (a0_2 : Int) (a0_3 : Int) (a0_4 : Int) (a0_5 : Int) (a1_0 : Int) (a1_1 : Int) (a1_2 : Int) (a1_3 : Int) (a1_4 : Int) (a1_5 : Int) (r : Int) (w : World) (h : bench_Gap.f a0_0 a0_1 a0_2 a0_3 a0_4 a0_5 a1_0 a1_1 a1_2 a1_3 a1_4 a1_5 = some r) : Calls Tryz.prog 19 #[.agg #[.int .i64 a0_0, .int .i64 a0_1, .int .i64 a0_2, .int .i64 a0_3, .int .i64 a0_4, .int .i64 a0_5], .agg #[.int .i64 a1_0, .int .i64 a1_1, .int .i64 a1_2, .int .i64 a1_3, .int .i64 a1_4, .int .i64 a1_5]] w fun e w' => e = .returned (.int .i64 r) ∧ Below w.heap.size w w' := by
  unfold bench_Gap.f at h
  obtain rfl := Option.some.inj h
  letI : Syms := symsOf [.int .i64 a0_0, .int .i64 a0_1, .int .i64 a0_2, .int .i64 a0_3, .int .i64 a0_4, .int .i64 a0_5, .int .i64 a1_0, .int .i64 a1_1, .int .i64 a1_2, .int .i64 a1_3, .int .i64 a1_4, .int .i64 a1_5, .int .i64 (wrap64 (a0_0 - a1_3)), .int .i64 (wrap64 (a1_0 - a0_3)), .int .i64 (mx (mx (wrap64 (a0_0 - a1_3)) (wrap64 (a1_0 - a0_3))) 0), .int .i64 (wrap64 (a0_1 - a1_4)), .int .i64 (wrap64 (a1_1 - a0_4)), .int .i64 (mx (mx (wrap64 (a0_1 - a1_4)) (wrap64 (a1_1 - a0_4))) 0), .int .i64 (mx (mx (mx (wrap64 (a0_0 - a1_3)) (wrap64 (a1_0 - a0_3))) 0) (mx (mx (wrap64 (a0_1 - a1_4)) (wrap64 (a1_1 - a0_4))) 0))] rfl
  exact run_leaf (r := bench_Gap.r0) RunC.follows RunC.noNum bench_Gap.x0 trivial ⟨ks_max2, ks_max3, ks_sub64, ks_sub64, ks_max3, ks_sub64, ks_sub64, trivial⟩ trivial rfl rfl w
def gangsawref17_Gap.f (a0_0 : Int) (a0_1 : Int) (a0_2 : Int) (a0_3 : Int) (a0_4 : Int) (a0_5 : Int) (a1_0 : Int) (a1_1 : Int) (a1_2 : Int) (a1_3 : Int) (a1_4 : Int) (a1_5 : Int) : Option (Int) :=
  some (mx (mx 0 (mx (wrap64 (a1_0 - a0_3)) (wrap64 (a0_0 - a1_3)))) (mx 0 (mx (wrap64 (a1_1 - a0_4)) (wrap64 (a0_1 - a1_4)))))
noncomputable def gangsawref17_Gap.run (r : Row) : Bool := saysV (xcall Tryz.prog 0 10000 (orcOf r.1 r.2.1 r.2.2.1) 40 0 (.fn 20) [.agg ⟨[sy 0, sy 1, sy 2, sy 3, sy 4, sy 5]⟩, .agg ⟨[sy 6, sy 7, sy 8, sy 9, sy 10, sy 11]⟩] ⟨.leaf, 0⟩) r.2.2.2
def gangsawref17_Gap.r0 : Row := ([], [(.bi .max [3, 3], [sy 15, sy 19], sy 20), (.bi .max [3, 3], [.int .i64 0, sy 18], sy 19), (.bi .max [3, 3], [sy 16, sy 17], sy 18), (.bin .sub 3 3, [sy 1, sy 10], sy 17), (.bin .sub 3 3, [sy 7, sy 4], sy 16), (.bi .max [3, 3], [.int .i64 0, sy 14], sy 15), (.bi .max [3, 3], [sy 12, sy 13], sy 14), (.bin .sub 3 3, [sy 0, sy 9], sy 13), (.bin .sub 3 3, [sy 6, sy 3], sy 12)], [], sy 20)
set_option maxRecDepth 1000000 in
theorem gangsawref17_Gap.x0 : gangsawref17_Gap.run gangsawref17_Gap.r0 = true := by kernel_rfl
theorem gangsawref17_Gap.calls (a0_0 : Int) (a0_1 : Int) (a0_2 : Int) (a0_3 : Int) (a0_4 : Int) (a0_5 : Int) (a1_0 : Int) (a1_1 : Int) (a1_2 : Int) (a1_3 : Int) (a1_4 : Int) (a1_5 : Int) (r : Int) (w : World) (h : gangsawref17_Gap.f a0_0 a0_1 a0_2 a0_3 a0_4 a0_5 a1_0 a1_1 a1_2 a1_3 a1_4 a1_5 = some r) : Calls Tryz.prog 20 #[.agg #[.int .i64 a0_0, .int .i64 a0_1, .int .i64 a0_2, .int .i64 a0_3, .int .i64 a0_4, .int .i64 a0_5], .agg #[.int .i64 a1_0, .int .i64 a1_1, .int .i64 a1_2, .int .i64 a1_3, .int .i64 a1_4, .int .i64 a1_5]] w fun e w' => e = .returned (.int .i64 r) ∧ Below w.heap.size w w' := by
  unfold gangsawref17_Gap.f at h
  obtain rfl := Option.some.inj h
  letI : Syms := symsOf [.int .i64 a0_0, .int .i64 a0_1, .int .i64 a0_2, .int .i64 a0_3, .int .i64 a0_4, .int .i64 a0_5, .int .i64 a1_0, .int .i64 a1_1, .int .i64 a1_2, .int .i64 a1_3, .int .i64 a1_4, .int .i64 a1_5, .int .i64 (wrap64 (a1_0 - a0_3)), .int .i64 (wrap64 (a0_0 - a1_3)), .int .i64 (mx (wrap64 (a1_0 - a0_3)) (wrap64 (a0_0 - a1_3))), .int .i64 (mx 0 (mx (wrap64 (a1_0 - a0_3)) (wrap64 (a0_0 - a1_3)))), .int .i64 (wrap64 (a1_1 - a0_4)), .int .i64 (wrap64 (a0_1 - a1_4)), .int .i64 (mx (wrap64 (a1_1 - a0_4)) (wrap64 (a0_1 - a1_4))), .int .i64 (mx 0 (mx (wrap64 (a1_1 - a0_4)) (wrap64 (a0_1 - a1_4)))), .int .i64 (mx (mx 0 (mx (wrap64 (a1_0 - a0_3)) (wrap64 (a0_0 - a1_3)))) (mx 0 (mx (wrap64 (a1_1 - a0_4)) (wrap64 (a0_1 - a1_4)))))] rfl
  exact run_leaf (r := gangsawref17_Gap.r0) RunC.follows RunC.noNum gangsawref17_Gap.x0 trivial ⟨ks_max2, ks_max2, ks_max2, ks_sub64, ks_sub64, ks_max2, ks_max2, ks_sub64, ks_sub64, trivial⟩ trivial rfl rfl w
def gangsawref13_Proper.f (a0_0 : Int) (a0_1 : Int) (a0_2 : Int) (a0_3 : Int) (a0_4 : Int) (a0_5 : Int) : Option (Bool) :=
  if a0_0 < a0_3 then (if a0_1 < a0_4 then (if a0_2 < a0_5 then (some true) else (some false)) else (some false)) else (some false)
noncomputable def gangsawref13_Proper.run (r : Row) : Bool := saysV (xcall Tryz.prog 0 10000 (orcOf r.1 r.2.1 r.2.2.1) 40 0 (.fn 21) [.agg ⟨[sy 0, sy 1, sy 2, sy 3, sy 4, sy 5]⟩] ⟨.leaf, 0⟩) r.2.2.2
def gangsawref13_Proper.r0 : Row := ([], [(.bin .lss 3 3, [sy 2, sy 5], .bool true), (.bin .lss 3 3, [sy 1, sy 4], .bool true), (.bin .lss 3 3, [sy 0, sy 3], .bool true)], [], .bool true)
set_option maxRecDepth 1000000 in
theorem gangsawref13_Proper.x0 : gangsawref13_Proper.run gangsawref13_Proper.r0 = true := by kernel_rfl
def gangsawref13_Proper.r1 : Row := ([], [(.bin .lss 3 3, [sy 2, sy 5], .bool false), (.bin .lss 3 3, [sy 1, sy 4], .bool true), (.bin .lss 3 3, [sy 0, sy 3], .bool true)], [], .bool false)
set_option maxRecDepth 1000000 in
theorem gangsawref13_Proper.x1 : gangsawref13_Proper.run gangsawref13_Proper.r1 = true := by kernel_rfl
def gangsawref13_Proper.r2 : Row := ([], [(.bin .lss 3 3, [sy 1, sy 4], .bool false), (.bin .lss 3 3, [sy 0, sy 3], .bool true)], [], .bool false)
set_option maxRecDepth 1000000 in
theorem gangsawref13_Proper.x2 : gangsawref13_Proper.run gangsawref13_Proper.r2 = true := by kernel_rfl
def gangsawref13_Proper.r3 : Row := ([], [(.bin .lss 3 3, [sy 0, sy 3], .bool false)], [], .bool false)
set_option maxRecDepth 1000000 in
theorem gangsawref13_Proper.x3 : gangsawref13_Proper.run gangsawref13_Proper.r3 = true := by kernel_rfl
theorem gangsawref13_Proper.calls (a0_0 : Int) (a0_1 : Int) (a0_2 : Int) (a0_3 : Int) (a0_4 : Int) (a0_5 : Int) (r : Bool) (w : World) (h : gangsawref13_Proper.f a0_0 a0_1 a0_2 a0_3 a0_4 a0_5 = some r) : Calls Tryz.prog 21 #[.agg #[.int .i64 a0_0, .int .i64 a0_1, .int .i64 a0_2, .int .i64 a0_3, .int .i64 a0_4, .int .i64 a0_5]] w fun e w' => e = .returned (.bool r) ∧ Below w.heap.size w w' := by
  unfold gangsawref13_Proper.f at h
  by_cases h1 : a0_0 < a0_3
  · rw [if_pos h1] at h
    by_cases h2 : a0_1 < a0_4
    · rw [if_pos h2] at h
      by_cases h3 : a0_2 < a0_5
      · rw [if_pos h3] at h
        obtain rfl := Option.some.inj h
        letI : Syms := symsOf [.int .i64 a0_0, .int .i64 a0_1, .int .i64 a0_2, .int .i64 a0_3, .int .i64 a0_4, .int .i64 a0_5] rfl
        exact run_leaf (r := gangsawref13_Proper.r0) RunC.follows RunC.noNum gangsawref13_Proper.x0 trivial ⟨ks_lss true (decide_eq_true h3), ks_lss true (decide_eq_true h2), ks_lss true (decide_eq_true h1), trivial⟩ trivial rfl rfl w
      · rw [if_neg h3] at h
        obtain rfl := Option.some.inj h
        letI : Syms := symsOf [.int .i64 a0_0, .int .i64 a0_1, .int .i64 a0_2, .int .i64 a0_3, .int .i64 a0_4, .int .i64 a0_5] rfl
        exact run_leaf (r := gangsawref13_Proper.r1) RunC.follows RunC.noNum gangsawref13_Proper.x1 trivial ⟨ks_lss false (decide_eq_false h3), ks_lss true (decide_eq_true h2), ks_lss true (decide_eq_true h1), trivial⟩ trivial rfl rfl w
    · rw [if_neg h2] at h
      obtain rfl := Option.some.inj h
      letI : Syms := symsOf [.int .i64 a0_0, .int .i64 a0_1, .int .i64 a0_2, .int .i64 a0_3, .int .i64 a0_4, .int .i64 a0_5] rfl
      exact run_leaf (r := gangsawref13_Proper.r2) RunC.follows RunC.noNum gangsawref13_Proper.x2 trivial ⟨ks_lss false (decide_eq_false h2), ks_lss true (decide_eq_true h1), trivial⟩ trivial rfl rfl w
  · rw [if_neg h1] at h
    obtain rfl := Option.some.inj h
    letI : Syms := symsOf [.int .i64 a0_0, .int .i64 a0_1, .int .i64 a0_2, .int .i64 a0_3, .int .i64 a0_4, .int .i64 a0_5] rfl
    exact run_leaf (r := gangsawref13_Proper.r3) RunC.follows RunC.noNum gangsawref13_Proper.x3 trivial ⟨ks_lss false (decide_eq_false h1), trivial⟩ trivial rfl rfl w
def gangsawlaw17_BenchGaps.f (a0_0 : Int) (a0_1 : Int) (a0_2 : Int) (a0_3 : Int) (a0_4 : Int) (a0_5 : Int) (a1_0 : Int) (a1_1 : Int) (a1_2 : Int) (a1_3 : Int) (a1_4 : Int) (a1_5 : Int) (a2 : Int) : Option (Bool) :=
  (gangsawlaw17_awake.f ).bind fun t1 => (if t1 = true then ((gangsawlaw17_fits.f a0_0 a0_1 a0_2 a0_3 a0_4 a0_5).bind fun t2 => (if t2 = true then ((gangsawlaw17_fits.f a1_0 a1_1 a1_2 a1_3 a1_4 a1_5).bind fun t3 => (if t3 = true then (if a2 < 0 then (some true) else (if a2 > 1000 then (some true) else ((bench_Gap.f a0_0 a0_1 a0_2 a0_3 a0_4 a0_5 a1_0 a1_1 a1_2 a1_3 a1_4 a1_5).bind fun t4 => ((gangsawref17_Gap.f a0_0 a0_1 a0_2 a0_3 a0_4 a0_5 a1_0 a1_1 a1_2 a1_3 a1_4 a1_5).bind fun t5 => (if t4 = t5 then ((bench_Gap.f a1_0 a1_1 a1_2 a1_3 a1_4 a1_5 a0_0 a0_1 a0_2 a0_3 a0_4 a0_5).bind fun t6 => (if t6 = t4 then ((gangsawlaw17_fits.f (wrap64 (a1_0 + a2)) a1_1 a1_2 (wrap64 (a1_3 + a2)) a1_4 a1_5).bind fun t7 => (if t7 = true then ((gangsawref13_Proper.f a0_0 a0_1 a0_2 a0_3 a0_4 a0_5).bind fun t8 => (if t8 = true then ((gangsawref13_Proper.f a1_0 a1_1 a1_2 a1_3 a1_4 a1_5).bind fun t9 => (if t9 = true then ((bench_Gap.f a0_0 a0_1 a0_2 a0_3 a0_4 a0_5 (wrap64 (a1_0 + a2)) a1_1 a1_2 (wrap64 (a1_3 + a2)) a1_4 a1_5).bind fun t10 => (if t10 ≤ wrap64 (t4 + a2) then (if t4 ≤ wrap64 (t10 + a2) then (some true) else (some false)) else (some false))) else (some true))) else (some true))) else (some true))) else (some false))) else (some false)))))) else (some true))) else (some true))) else (some false))
noncomputable def gangsawlaw17_BenchGaps.run (r : Row) : Bool := saysV (xcall Tryz.prog 0 10000 (orcOf r.1 r.2.1 r.2.2.1) 40 0 (.fn 4) [.agg ⟨[sy 0, sy 1, sy 2, sy 3, sy 4, sy 5]⟩, .agg ⟨[sy 6, sy 7, sy 8, sy 9, sy 10, sy 11]⟩, sy 12] ⟨.leaf, 0⟩) r.2.2.2
def gangsawlaw17_BenchGaps.r0 : Row := ([(18, [.agg ⟨[sy 6, sy 7, sy 8, sy 9, sy 10, sy 11]⟩], .bool true), (18, [.agg ⟨[sy 0, sy 1, sy 2, sy 3, sy 4, sy 5]⟩], .bool true), (9, [], .bool true)], [(.bin .lss 3 3, [sy 12, .int .i64 0], .bool true)], [], .bool true)
set_option maxRecDepth 1000000 in
theorem gangsawlaw17_BenchGaps.x0 : gangsawlaw17_BenchGaps.run gangsawlaw17_BenchGaps.r0 = true := by kernel_rfl
def gangsawlaw17_BenchGaps.r1 : Row := ([(18, [.agg ⟨[sy 6, sy 7, sy 8, sy 9, sy 10, sy 11]⟩], .bool true), (18, [.agg ⟨[sy 0, sy 1, sy 2, sy 3, sy 4, sy 5]⟩], .bool true), (9, [], .bool true)], [(.bin .gtr 3 3, [sy 12, .int .i64 1000], .bool true), (.bin .lss 3 3, [sy 12, .int .i64 0], .bool false)], [], .bool true)
set_option maxRecDepth 1000000 in
theorem gangsawlaw17_BenchGaps.x1 : gangsawlaw17_BenchGaps.run gangsawlaw17_BenchGaps.r1 = true := by kernel_rfl
def gangsawlaw17_BenchGaps.r2 : Row := ([(19, [.agg ⟨[sy 0, sy 1, sy 2, sy 3, sy 4, sy 5]⟩, .agg ⟨[sy 16, sy 7, sy 8, sy 17, sy 10, sy 11]⟩], sy 18), (21, [.agg ⟨[sy 6, sy 7, sy 8, sy 9, sy 10, sy 11]⟩], .bool true), (21, [.agg ⟨[sy 0, sy 1, sy 2, sy 3, sy 4, sy 5]⟩], .bool true), (18, [.agg ⟨[sy 16, sy 7, sy 8, sy 17, sy 10, sy 11]⟩], .bool true), (19, [.agg ⟨[sy 6, sy 7, sy 8, sy 9, sy 10, sy 11]⟩, .agg ⟨[sy 0, sy 1, sy 2, sy 3, sy 4, sy 5]⟩], sy 15), (20, [.agg ⟨[sy 0, sy 1, sy 2, sy 3, sy 4, sy 5]⟩, .agg ⟨[sy 6, sy 7, sy 8, sy 9, sy 10, sy 11]⟩], sy 14), (19, [.agg ⟨[sy 0, sy 1, sy 2, sy 3, sy 4, sy 5]⟩, .agg ⟨[sy 6, sy 7, sy 8, sy 9, sy 10, sy 11]⟩], sy 13), (18, [.agg ⟨[sy 6, sy 7, sy 8, sy 9, sy 10, sy 11]⟩], .bool true), (18, [.agg ⟨[sy 0, sy 1, sy 2, sy 3, sy 4, sy 5]⟩], .bool true), (9, [], .bool true)], [(.bin .leq 3 3, [sy 13, sy 20], .bool true), (.bin .add 3 3, [sy 18, sy 12], sy 20), (.bin .leq 3 3, [sy 18, sy 19], .bool true), (.bin .add 3 3, [sy 13, sy 12], sy 19), (.bin .add 3 3, [sy 9, sy 12], sy 17), (.bin .add 3 3, [sy 6, sy 12], sy 16), (.bin .neq 3 3, [sy 15, sy 13], .bool false), (.bin .neq 3 3, [sy 13, sy 14], .bool false), (.bin .gtr 3 3, [sy 12, .int .i64 1000], .bool false), (.bin .lss 3 3, [sy 12, .int .i64 0], .bool false)], [], .bool true)
set_option maxRecDepth 1000000 in
theorem gangsawlaw17_BenchGaps.x2 : gangsawlaw17_BenchGaps.run gangsawlaw17_BenchGaps.r2 = true := by kernel_rfl
def gangsawlaw17_BenchGaps.r3 : Row := ([(19, [.agg ⟨[sy 0, sy 1, sy 2, sy 3, sy 4, sy 5]⟩, .agg ⟨[sy 16, sy 7, sy 8, sy 17, sy 10, sy 11]⟩], sy 18), (21, [.agg ⟨[sy 6, sy 7, sy 8, sy 9, sy 10, sy 11]⟩], .bool true), (21, [.agg ⟨[sy 0, sy 1, sy 2, sy 3, sy 4, sy 5]⟩], .bool true), (18, [.agg ⟨[sy 16, sy 7, sy 8, sy 17, sy 10, sy 11]⟩], .bool true), (19, [.agg ⟨[sy 6, sy 7, sy 8, sy 9, sy 10, sy 11]⟩, .agg ⟨[sy 0, sy 1, sy 2, sy 3, sy 4, sy 5]⟩], sy 15), (20, [.agg ⟨[sy 0, sy 1, sy 2, sy 3, sy 4, sy 5]⟩, .agg ⟨[sy 6, sy 7, sy 8, sy 9, sy 10, sy 11]⟩], sy 14), (19, [.agg ⟨[sy 0, sy 1, sy 2, sy 3, sy 4, sy 5]⟩, .agg ⟨[sy 6, sy 7, sy 8, sy 9, sy 10, sy 11]⟩], sy 13), (18, [.agg ⟨[sy 6, sy 7, sy 8, sy 9, sy 10, sy 11]⟩], .bool true), (18, [.agg ⟨[sy 0, sy 1, sy 2, sy 3, sy 4, sy 5]⟩], .bool true), (9, [], .bool true)], [(.bin .leq 3 3, [sy 13, sy 20], .bool false), (.bin .add 3 3, [sy 18, sy 12], sy 20), (.bin .leq 3 3, [sy 18, sy 19], .bool true), (.bin .add 3 3, [sy 13, sy 12], sy 19), (.bin .add 3 3, [sy 9, sy 12], sy 17), (.bin .add 3 3, [sy 6, sy 12], sy 16), (.bin .neq 3 3, [sy 15, sy 13], .bool false), (.bin .neq 3 3, [sy 13, sy 14], .bool false), (.bin .gtr 3 3, [sy 12, .int .i64 1000], .bool false), (.bin .lss 3 3, [sy 12, .int .i64 0], .bool false)], [], .bool false)
set_option maxRecDepth 1000000 in
theorem gangsawlaw17_BenchGaps.x3 : gangsawlaw17_BenchGaps.run gangsawlaw17_BenchGaps.r3 = true := by kernel_rfl
def gangsawlaw17_BenchGaps.r4 : Row := ([(19, [.agg ⟨[sy 0, sy 1, sy 2, sy 3, sy 4, sy 5]⟩, .agg ⟨[sy 16, sy 7, sy 8, sy 17, sy 10, sy 11]⟩], sy 18), (21, [.agg ⟨[sy 6, sy 7, sy 8, sy 9, sy 10, sy 11]⟩], .bool true), (21, [.agg ⟨[sy 0, sy 1, sy 2, sy 3, sy 4, sy 5]⟩], .bool true), (18, [.agg ⟨[sy 16, sy 7, sy 8, sy 17, sy 10, sy 11]⟩], .bool true), (19, [.agg ⟨[sy 6, sy 7, sy 8, sy 9, sy 10, sy 11]⟩, .agg ⟨[sy 0, sy 1, sy 2, sy 3, sy 4, sy 5]⟩], sy 15), (20, [.agg ⟨[sy 0, sy 1, sy 2, sy 3, sy 4, sy 5]⟩, .agg ⟨[sy 6, sy 7, sy 8, sy 9, sy 10, sy 11]⟩], sy 14), (19, [.agg ⟨[sy 0, sy 1, sy 2, sy 3, sy 4, sy 5]⟩, .agg ⟨[sy 6, sy 7, sy 8, sy 9, sy 10, sy 11]⟩], sy 13), (18, [.agg ⟨[sy 6, sy 7, sy 8, sy 9, sy 10, sy 11]⟩], .bool true), (18, [.agg ⟨[sy 0, sy 1, sy 2, sy 3, sy 4, sy 5]⟩], .bool true), (9, [], .bool true)], [(.bin .leq 3 3, [sy 18, sy 19], .bool false), (.bin .add 3 3, [sy 13, sy 12], sy 19), (.bin .add 3 3, [sy 9, sy 12], sy 17), (.bin .add 3 3, [sy 6, sy 12], sy 16), (.bin .neq 3 3, [sy 15, sy 13], .bool false), (.bin .neq 3 3, [sy 13, sy 14], .bool false), (.bin .gtr 3 3, [sy 12, .int .i64 1000], .bool false), (.bin .lss 3 3, [sy 12, .int .i64 0], .bool false)], [], .bool false)
set_option maxRecDepth 1000000 in
theorem gangsawlaw17_BenchGaps.x4 : gangsawlaw17_BenchGaps.run gangsawlaw17_BenchGaps.r4 = true := by kernel_rfl
def gangsawlaw17_BenchGaps.r5 : Row := ([(21, [.agg ⟨[sy 6, sy 7, sy 8, sy 9, sy 10, sy 11]⟩], .bool false), (21, [.agg ⟨[sy 0, sy 1, sy 2, sy 3, sy 4, sy 5]⟩], .bool true), (18, [.agg ⟨[sy 16, sy 7, sy 8, sy 17, sy 10, sy 11]⟩], .bool true), (19, [.agg ⟨[sy 6, sy 7, sy 8, sy 9, sy 10, sy 11]⟩, .agg ⟨[sy 0, sy 1, sy 2, sy 3, sy 4, sy 5]⟩], sy 15), (20, [.agg ⟨[sy 0, sy 1, sy 2, sy 3, sy 4, sy 5]⟩, .agg ⟨[sy 6, sy 7, sy 8, sy 9, sy 10, sy 11]⟩], sy 14), (19, [.agg ⟨[sy 0, sy 1, sy 2, sy 3, sy 4, sy 5]⟩, .agg ⟨[sy 6, sy 7, sy 8, sy 9, sy 10, sy 11]⟩], sy 13), (18, [.agg ⟨[sy 6, sy 7, sy 8, sy 9, sy 10, sy 11]⟩], .bool true), (18, [.agg ⟨[sy 0, sy 1, sy 2, sy 3, sy 4, sy 5]⟩], .bool true), (9, [], .bool true)], [(.bin .add 3 3, [sy 9, sy 12], sy 17), (.bin .add 3 3, [sy 6, sy 12], sy 16), (.bin .neq 3 3, [sy 15, sy 13], .bool false), (.bin .neq 3 3, [sy 13, sy 14], .bool false), (.bin .gtr 3 3, [sy 12, .int .i64 1000], .bool false), (.bin .lss 3 3, [sy 12, .int .i64 0], .bool false)], [], .bool true)
set_option maxRecDepth 1000000 in
theorem gangsawlaw17_BenchGaps.x5 : gangsawlaw17_BenchGaps.run gangsawlaw17_BenchGaps.r5 = true := by kernel_rfl
def gangsawlaw17_BenchGaps.r6 : Row := ([(21, [.agg ⟨[sy 0, sy 1, sy 2, sy 3, sy 4, sy 5]⟩], .bool false), (18, [.agg ⟨[sy 16, sy 7, sy 8, sy 17, sy 10, sy 11]⟩], .bool true), (19, [.agg ⟨[sy 6, sy 7, sy 8, sy 9, sy 10, sy 11]⟩, .agg ⟨[sy 0, sy 1, sy 2, sy 3, sy 4, sy 5]⟩], sy 15), (20, [.agg ⟨[sy 0, sy 1, sy 2, sy 3, sy 4, sy 5]⟩, .agg ⟨[sy 6, sy 7, sy 8, sy 9, sy 10, sy 11]⟩], sy 14), (19, [.agg ⟨[sy 0, sy 1, sy 2, sy 3, sy 4, sy 5]⟩, .agg ⟨[sy 6, sy 7, sy 8, sy 9, sy 10, sy 11]⟩], sy 13), (18, [.agg ⟨[sy 6, sy 7, sy 8, sy 9, sy 10, sy 11]⟩], .bool true), (18, [.agg ⟨[sy 0, sy 1, sy 2, sy 3, sy 4, sy 5]⟩], .bool true), (9, [], .bool true)], [(.bin .add 3 3, [sy 9, sy 12], sy 17), (.bin .add 3 3, [sy 6, sy 12], sy 16), (.bin .neq 3 3, [sy 15, sy 13], .bool false), (.bin .neq 3 3, [sy 13, sy 14], .bool false), (.bin .gtr 3 3, [sy 12, .int .i64 1000], .bool false), (.bin .lss 3 3, [sy 12, .int .i64 0], .bool false)], [], .bool true)
set_option maxRecDepth 1000000 in
theorem gangsawlaw17_BenchGaps.x6 : gangsawlaw17_BenchGaps.run gangsawlaw17_BenchGaps.r6 = true := by kernel_rfl
def gangsawlaw17_BenchGaps.r7 : Row := ([(18, [.agg ⟨[sy 16, sy 7, sy 8, sy 17, sy 10, sy 11]⟩], .bool false), (19, [.agg ⟨[sy 6, sy 7, sy 8, sy 9, sy 10, sy 11]⟩, .agg ⟨[sy 0, sy 1, sy 2, sy 3, sy 4, sy 5]⟩], sy 15), (20, [.agg ⟨[sy 0, sy 1, sy 2, sy 3, sy 4, sy 5]⟩, .agg ⟨[sy 6, sy 7, sy 8, sy 9, sy 10, sy 11]⟩], sy 14), (19, [.agg ⟨[sy 0, sy 1, sy 2, sy 3, sy 4, sy 5]⟩, .agg ⟨[sy 6, sy 7, sy 8, sy 9, sy 10, sy 11]⟩], sy 13), (18, [.agg ⟨[sy 6, sy 7, sy 8, sy 9, sy 10, sy 11]⟩], .bool true), (18, [.agg ⟨[sy 0, sy 1, sy 2, sy 3, sy 4, sy 5]⟩], .bool true), (9, [], .bool true)], [(.bin .add 3 3, [sy 9, sy 12], sy 17), (.bin .add 3 3, [sy 6, sy 12], sy 16), (.bin .neq 3 3, [sy 15, sy 13], .bool false), (.bin .neq 3 3, [sy 13, sy 14], .bool false), (.bin .gtr 3 3, [sy 12, .int .i64 1000], .bool false), (.bin .lss 3 3, [sy 12, .int .i64 0], .bool false)], [], .bool true)
set_option maxRecDepth 1000000 in
theorem gangsawlaw17_BenchGaps.x7 : gangsawlaw17_BenchGaps.run gangsawlaw17_BenchGaps.r7 = true := by kernel_rfl
def gangsawlaw17_BenchGaps.r8 : Row := ([(19, [.agg ⟨[sy 6, sy 7, sy 8, sy 9, sy 10, sy 11]⟩, .agg ⟨[sy 0, sy 1, sy 2, sy 3, sy 4, sy 5]⟩], sy 15), (20, [.agg ⟨[sy 0, sy 1, sy 2, sy 3, sy 4, sy 5]⟩, .agg ⟨[sy 6, sy 7, sy 8, sy 9, sy 10, sy 11]⟩], sy 14), (19, [.agg ⟨[sy 0, sy 1, sy 2, sy 3, sy 4, sy 5]⟩, .agg ⟨[sy 6, sy 7, sy 8, sy 9, sy 10, sy 11]⟩], sy 13), (18, [.agg ⟨[sy 6, sy 7, sy 8, sy 9, sy 10, sy 11]⟩], .bool true), (18, [.agg ⟨[sy 0, sy 1, sy 2, sy 3, sy 4, sy 5]⟩], .bool true), (9, [], .bool true)], [(.bin .neq 3 3, [sy 15, sy 13], .bool true), (.bin .neq 3 3, [sy 13, sy 14], .bool false), (.bin .gtr 3 3, [sy 12, .int .i64 1000], .bool false), (.bin .lss 3 3, [sy 12, .int .i64 0], .bool false)], [], .bool false)
set_option maxRecDepth 1000000 in
theorem gangsawlaw17_BenchGaps.x8 : gangsawlaw17_BenchGaps.run gangsawlaw17_BenchGaps.r8 = true := by kernel_rfl
def gangsawlaw17_BenchGaps.r9 : Row := ([(20, [.agg ⟨[sy 0, sy 1, sy 2, sy 3, sy 4, sy 5]⟩, .agg ⟨[sy 6, sy 7, sy 8, sy 9, sy 10, sy 11]⟩], sy 14), (19, [.agg ⟨[sy 0, sy 1, sy 2, sy 3, sy 4, sy 5]⟩, .agg ⟨[sy 6, sy 7, sy 8, sy 9, sy 10, sy 11]⟩], sy 13), (18, [.agg ⟨[sy 6, sy 7, sy 8, sy 9, sy 10, sy 11]⟩], .bool true), (18, [.agg ⟨[sy 0, sy 1, sy 2, sy 3, sy 4, sy 5]⟩], .bool true), (9, [], .bool true)], [(.bin .neq 3 3, [sy 13, sy 14], .bool true), (.bin .gtr 3 3, [sy 12, .int .i64 1000], .bool false), (.bin .lss 3 3, [sy 12, .int .i64 0], .bool false)], [], .bool false)
set_option maxRecDepth 1000000 in
theorem gangsawlaw17_BenchGaps.x9 : gangsawlaw17_BenchGaps.run gangsawlaw17_BenchGaps.r9 = true := by kernel_rfl
def gangsawlaw17_BenchGaps.r10 : Row := ([(18, [.agg ⟨[sy 6, sy 7, sy 8, sy 9, sy 10, sy 11]⟩], .bool false), (18, [.agg ⟨[sy 0, sy 1, sy 2, sy 3, sy 4, sy 5]⟩], .bool true), (9, [], .bool true)], [], [], .bool true)
set_option maxRecDepth 1000000 in
theorem gangsawlaw17_BenchGaps.x10 : gangsawlaw17_BenchGaps.run gangsawlaw17_BenchGaps.r10 = true := by kernel_rfl
def gangsawlaw17_BenchGaps.r11 : Row := ([(18, [.agg ⟨[sy 0, sy 1, sy 2, sy 3, sy 4, sy 5]⟩], .bool false), (9, [], .bool true)], [], [], .bool true)
set_option maxRecDepth 1000000 in
theorem gangsawlaw17_BenchGaps.x11 : gangsawlaw17_BenchGaps.run gangsawlaw17_BenchGaps.r11 = true := by kernel_rfl
def gangsawlaw17_BenchGaps.r12 : Row := ([(9, [], .bool false)], [], [], .bool false)
set_option maxRecDepth 1000000 in
theorem gangsawlaw17_BenchGaps.x12 : gangsawlaw17_BenchGaps.run gangsawlaw17_BenchGaps.r12 = true := by kernel_rfl
theorem gangsawlaw17_BenchGaps.calls (a0_0 : Int) (a0_1 : Int) (a0_2 : Int) (a0_3 : Int) (a0_4 : Int) (a0_5 : Int) (a1_0 : Int) (a1_1 : Int) (a1_2 : Int) (a1_3 : Int) (a1_4 : Int) (a1_5 : Int) (a2 : Int) (r : Bool) (w : World) (h : gangsawlaw17_BenchGaps.f a0_0 a0_1 a0_2 a0_3 a0_4 a0_5 a1_0 a1_1 a1_2 a1_3 a1_4 a1_5 a2 = some r) : Calls Tryz.prog 4 #[.agg #[.int .i64 a0_0, .int .i64 a0_1, .int .i64 a0_2, .int .i64 a0_3, .int .i64 a0_4, .int .i64 a0_5], .agg #[.int .i64 a1_0, .int .i64 a1_1, .int .i64 a1_2, .int .i64 a1_3, .int .i64 a1_4, .int .i64 a1_5], .int .i64 a2] w fun e w' => e = .returned (.bool r) ∧ Below w.heap.size w w' := by
  unfold gangsawlaw17_BenchGaps.f at h
  rw [Option.bind_eq_some_iff] at h
  obtain ⟨t1, h1, h⟩ := h
  cases t1 with
  | true =>
    rw [if_pos rfl] at h
    rw [Option.bind_eq_some_iff] at h
    obtain ⟨t2, h2, h⟩ := h
    cases t2 with
    | true =>
      rw [if_pos rfl] at h
      rw [Option.bind_eq_some_iff] at h
      obtain ⟨t3, h3, h⟩ := h
      cases t3 with
      | true =>
        rw [if_pos rfl] at h
        by_cases h4 : a2 < 0
        · rw [if_pos h4] at h
          obtain rfl := Option.some.inj h
          letI : Syms := symsOf [.int .i64 a0_0, .int .i64 a0_1, .int .i64 a0_2, .int .i64 a0_3, .int .i64 a0_4, .int .i64 a0_5, .int .i64 a1_0, .int .i64 a1_1, .int .i64 a1_2, .int .i64 a1_3, .int .i64 a1_4, .int .i64 a1_5, .int .i64 a2] rfl
          exact run_leaf (r := gangsawlaw17_BenchGaps.r0) RunC.follows RunC.noNum gangsawlaw17_BenchGaps.x0 ⟨(fun w => (gangsawlaw17_fits.calls a1_0 a1_1 a1_2 a1_3 a1_4 a1_5 true w h3).mono fun _ _ h => h), (fun w => (gangsawlaw17_fits.calls a0_0 a0_1 a0_2 a0_3 a0_4 a0_5 true w h2).mono fun _ _ h => h), (fun w => (gangsawlaw17_awake.calls  true w h1).mono fun _ _ h => h), trivial⟩ ⟨ks_lss true (decide_eq_true h4), trivial⟩ trivial rfl rfl w
        · rw [if_neg h4] at h
          by_cases h5 : a2 > 1000
          · rw [if_pos h5] at h
            obtain rfl := Option.some.inj h
            letI : Syms := symsOf [.int .i64 a0_0, .int .i64 a0_1, .int .i64 a0_2, .int .i64 a0_3, .int .i64 a0_4, .int .i64 a0_5, .int .i64 a1_0, .int .i64 a1_1, .int .i64 a1_2, .int .i64 a1_3, .int .i64 a1_4, .int .i64 a1_5, .int .i64 a2] rfl
            exact run_leaf (r := gangsawlaw17_BenchGaps.r1) RunC.follows RunC.noNum gangsawlaw17_BenchGaps.x1 ⟨(fun w => (gangsawlaw17_fits.calls a1_0 a1_1 a1_2 a1_3 a1_4 a1_5 true w h3).mono fun _ _ h => h), (fun w => (gangsawlaw17_fits.calls a0_0 a0_1 a0_2 a0_3 a0_4 a0_5 true w h2).mono fun _ _ h => h), (fun w => (gangsawlaw17_awake.calls  true w h1).mono fun _ _ h => h), trivial⟩ ⟨ks_gtr true (decide_eq_true h5), ks_lss false (decide_eq_false h4), trivial⟩ trivial rfl rfl w
          · rw [if_neg h5] at h
            rw [Option.bind_eq_some_iff] at h
            obtain ⟨t4, h6, h⟩ := h
            rw [Option.bind_eq_some_iff] at h
            obtain ⟨t5, h7, h⟩ := h
            by_cases h8 : t4 = t5
            · rw [if_pos h8] at h
              rw [Option.bind_eq_some_iff] at h
              obtain ⟨t6, h9, h⟩ := h
              by_cases h10 : t6 = t4
              · rw [if_pos h10] at h
                rw [Option.bind_eq_some_iff] at h
                obtain ⟨t7, h11, h⟩ := h
                cases t7 with
                | true =>
                  rw [if_pos rfl] at h
                  rw [Option.bind_eq_some_iff] at h
                  obtain ⟨t8, h12, h⟩ := h
                  cases t8 with
                  | true =>
                    rw [if_pos rfl] at h
                    rw [Option.bind_eq_some_iff] at h
                    obtain ⟨t9, h13, h⟩ := h
                    cases t9 with
                    | true =>
                      rw [if_pos rfl] at h
                      rw [Option.bind_eq_some_iff] at h
                      obtain ⟨t10, h14, h⟩ := h
                      by_cases h15 : t10 ≤ wrap64 (t4 + a2)
                      · rw [if_pos h15] at h
                        by_cases h16 : t4 ≤ wrap64 (t10 + a2)
                        · rw [if_pos h16] at h
                          obtain rfl := Option.some.inj h
                          letI : Syms := symsOf [.int .i64 a0_0, .int .i64 a0_1, .int .i64 a0_2, .int .i64 a0_3, .int .i64 a0_4, .int .i64 a0_5, .int .i64 a1_0, .int .i64 a1_1, .int .i64 a1_2, .int .i64 a1_3, .int .i64 a1_4, .int .i64 a1_5, .int .i64 a2, .int .i64 t4, .int .i64 t5, .int .i64 t6, .int .i64 (wrap64 (a1_0 + a2)), .int .i64 (wrap64 (a1_3 + a2)), .int .i64 t10, .int .i64 (wrap64 (t4 + a2)), .int .i64 (wrap64 (t10 + a2))] rfl
                          exact run_leaf (r := gangsawlaw17_BenchGaps.r2) RunC.follows RunC.noNum gangsawlaw17_BenchGaps.x2 ⟨(fun w => (bench_Gap.calls a0_0 a0_1 a0_2 a0_3 a0_4 a0_5 (wrap64 (a1_0 + a2)) a1_1 a1_2 (wrap64 (a1_3 + a2)) a1_4 a1_5 t10 w h14).mono fun _ _ h => h), (fun w => (gangsawref13_Proper.calls a1_0 a1_1 a1_2 a1_3 a1_4 a1_5 true w h13).mono fun _ _ h => h), (fun w => (gangsawref13_Proper.calls a0_0 a0_1 a0_2 a0_3 a0_4 a0_5 true w h12).mono fun _ _ h => h), (fun w => (gangsawlaw17_fits.calls (wrap64 (a1_0 + a2)) a1_1 a1_2 (wrap64 (a1_3 + a2)) a1_4 a1_5 true w h11).mono fun _ _ h => h), (fun w => (bench_Gap.calls a1_0 a1_1 a1_2 a1_3 a1_4 a1_5 a0_0 a0_1 a0_2 a0_3 a0_4 a0_5 t6 w h9).mono fun _ _ h => h), (fun w => (gangsawref17_Gap.calls a0_0 a0_1 a0_2 a0_3 a0_4 a0_5 a1_0 a1_1 a1_2 a1_3 a1_4 a1_5 t5 w h7).mono fun _ _ h => h), (fun w => (bench_Gap.calls a0_0 a0_1 a0_2 a0_3 a0_4 a0_5 a1_0 a1_1 a1_2 a1_3 a1_4 a1_5 t4 w h6).mono fun _ _ h => h), (fun w => (gangsawlaw17_fits.calls a1_0 a1_1 a1_2 a1_3 a1_4 a1_5 true w h3).mono fun _ _ h => h), (fun w => (gangsawlaw17_fits.calls a0_0 a0_1 a0_2 a0_3 a0_4 a0_5 true w h2).mono fun _ _ h => h), (fun w => (gangsawlaw17_awake.calls  true w h1).mono fun _ _ h => h), trivial⟩ ⟨ks_leq true (decide_eq_true h16), ks_add64, ks_leq true (decide_eq_true h15), ks_add64, ks_add64, ks_add64, ks_neq false (by rw [decide_eq_true h10]; rfl), ks_neq false (by rw [decide_eq_true h8]; rfl), ks_gtr false (decide_eq_false h5), ks_lss false (decide_eq_false h4), trivial⟩ trivial rfl rfl w
                        · rw [if_neg h16] at h
                          obtain rfl := Option.some.inj h
                          letI : Syms := symsOf [.int .i64 a0_0, .int .i64 a0_1, .int .i64 a0_2, .int .i64 a0_3, .int .i64 a0_4, .int .i64 a0_5, .int .i64 a1_0, .int .i64 a1_1, .int .i64 a1_2, .int .i64 a1_3, .int .i64 a1_4, .int .i64 a1_5, .int .i64 a2, .int .i64 t4, .int .i64 t5, .int .i64 t6, .int .i64 (wrap64 (a1_0 + a2)), .int .i64 (wrap64 (a1_3 + a2)), .int .i64 t10, .int .i64 (wrap64 (t4 + a2)), .int .i64 (wrap64 (t10 + a2))] rfl
                          exact run_leaf (r := gangsawlaw17_BenchGaps.r3) RunC.follows RunC.noNum gangsawlaw17_BenchGaps.x3 ⟨(fun w => (bench_Gap.calls a0_0 a0_1 a0_2 a0_3 a0_4 a0_5 (wrap64 (a1_0 + a2)) a1_1 a1_2 (wrap64 (a1_3 + a2)) a1_4 a1_5 t10 w h14).mono fun _ _ h => h), (fun w => (gangsawref13_Proper.calls a1_0 a1_1 a1_2 a1_3 a1_4 a1_5 true w h13).mono fun _ _ h => h), (fun w => (gangsawref13_Proper.calls a0_0 a0_1 a0_2 a0_3 a0_4 a0_5 true w h12).mono fun _ _ h => h), (fun w => (gangsawlaw17_fits.calls (wrap64 (a1_0 + a2)) a1_1 a1_2 (wrap64 (a1_3 + a2)) a1_4 a1_5 true w h11).mono fun _ _ h => h), (fun w => (bench_Gap.calls a1_0 a1_1 a1_2 a1_3 a1_4 a1_5 a0_0 a0_1 a0_2 a0_3 a0_4 a0_5 t6 w h9).mono fun _ _ h => h), (fun w => (gangsawref17_Gap.calls a0_0 a0_1 a0_2 a0_3 a0_4 a0_5 a1_0 a1_1 a1_2 a1_3 a1_4 a1_5 t5 w h7).mono fun _ _ h => h), (fun w => (bench_Gap.calls a0_0 a0_1 a0_2 a0_3 a0_4 a0_5 a1_0 a1_1 a1_2 a1_3 a1_4 a1_5 t4 w h6).mono fun _ _ h => h), (fun w => (gangsawlaw17_fits.calls a1_0 a1_1 a1_2 a1_3 a1_4 a1_5 true w h3).mono fun _ _ h => h), (fun w => (gangsawlaw17_fits.calls a0_0 a0_1 a0_2 a0_3 a0_4 a0_5 true w h2).mono fun _ _ h => h), (fun w => (gangsawlaw17_awake.calls  true w h1).mono fun _ _ h => h), trivial⟩ ⟨ks_leq false (decide_eq_false h16), ks_add64, ks_leq true (decide_eq_true h15), ks_add64, ks_add64, ks_add64, ks_neq false (by rw [decide_eq_true h10]; rfl), ks_neq false (by rw [decide_eq_true h8]; rfl), ks_gtr false (decide_eq_false h5), ks_lss false (decide_eq_false h4), trivial⟩ trivial rfl rfl w
                      · rw [if_neg h15] at h
                        obtain rfl := Option.some.inj h
                        letI : Syms := symsOf [.int .i64 a0_0, .int .i64 a0_1, .int .i64 a0_2, .int .i64 a0_3, .int .i64 a0_4, .int .i64 a0_5, .int .i64 a1_0, .int .i64 a1_1, .int .i64 a1_2, .int .i64 a1_3, .int .i64 a1_4, .int .i64 a1_5, .int .i64 a2, .int .i64 t4, .int .i64 t5, .int .i64 t6, .int .i64 (wrap64 (a1_0 + a2)), .int .i64 (wrap64 (a1_3 + a2)), .int .i64 t10, .int .i64 (wrap64 (t4 + a2))] rfl
                        exact run_leaf (r := gangsawlaw17_BenchGaps.r4) RunC.follows RunC.noNum gangsawlaw17_BenchGaps.x4 ⟨(fun w => (bench_Gap.calls a0_0 a0_1 a0_2 a0_3 a0_4 a0_5 (wrap64 (a1_0 + a2)) a1_1 a1_2 (wrap64 (a1_3 + a2)) a1_4 a1_5 t10 w h14).mono fun _ _ h => h), (fun w => (gangsawref13_Proper.calls a1_0 a1_1 a1_2 a1_3 a1_4 a1_5 true w h13).mono fun _ _ h => h), (fun w => (gangsawref13_Proper.calls a0_0 a0_1 a0_2 a0_3 a0_4 a0_5 true w h12).mono fun _ _ h => h), (fun w => (gangsawlaw17_fits.calls (wrap64 (a1_0 + a2)) a1_1 a1_2 (wrap64 (a1_3 + a2)) a1_4 a1_5 true w h11).mono fun _ _ h => h), (fun w => (bench_Gap.calls a1_0 a1_1 a1_2 a1_3 a1_4 a1_5 a0_0 a0_1 a0_2 a0_3 a0_4 a0_5 t6 w h9).mono fun _ _ h => h), (fun w => (gangsawref17_Gap.calls a0_0 a0_1 a0_2 a0_3 a0_4 a0_5 a1_0 a1_1 a1_2 a1_3 a1_4 a1_5 t5 w h7).mono fun _ _ h => h), (fun w => (bench_Gap.calls a0_0 a0_1 a0_2 a0_3 a0_4 a0_5 a1_0 a1_1 a1_2 a1_3 a1_4 a1_5 t4 w h6).mono fun _ _ h => h), (fun w => (gangsawlaw17_fits.calls a1_0 a1_1 a1_2 a1_3 a1_4 a1_5 true w h3).mono fun _ _ h => h), (fun w => (gangsawlaw17_fits.calls a0_0 a0_1 a0_2 a0_3 a0_4 a0_5 true w h2).mono fun _ _ h => h), (fun w => (gangsawlaw17_awake.calls  true w h1).mono fun _ _ h => h), trivial⟩ ⟨ks_leq false (decide_eq_false h15), ks_add64, ks_add64, ks_add64, ks_neq false (by rw [decide_eq_true h10]; rfl), ks_neq false (by rw [decide_eq_true h8]; rfl), ks_gtr false (decide_eq_false h5), ks_lss false (decide_eq_false h4), trivial⟩ trivial rfl rfl w
                    | false =>
                      rw [if_neg (by decide)] at h
                      obtain rfl := Option.some.inj h
                      letI : Syms := symsOf [.int .i64 a0_0, .int .i64 a0_1, .int .i64 a0_2, .int .i64 a0_3, .int .i64 a0_4, .int .i64 a0_5, .int .i64 a1_0, .int .i64 a1_1, .int .i64 a1_2, .int .i64 a1_3, .int .i64 a1_4, .int .i64 a1_5, .int .i64 a2, .int .i64 t4, .int .i64 t5, .int .i64 t6, .int .i64 (wrap64 (a1_0 + a2)), .int .i64 (wrap64 (a1_3 + a2))] rfl
                      exact run_leaf (r := gangsawlaw17_BenchGaps.r5) RunC.follows RunC.noNum gangsawlaw17_BenchGaps.x5 ⟨(fun w => (gangsawref13_Proper.calls a1_0 a1_1 a1_2 a1_3 a1_4 a1_5 false w h13).mono fun _ _ h => h), (fun w => (gangsawref13_Proper.calls a0_0 a0_1 a0_2 a0_3 a0_4 a0_5 true w h12).mono fun _ _ h => h), (fun w => (gangsawlaw17_fits.calls (wrap64 (a1_0 + a2)) a1_1 a1_2 (wrap64 (a1_3 + a2)) a1_4 a1_5 true w h11).mono fun _ _ h => h), (fun w => (bench_Gap.calls a1_0 a1_1 a1_2 a1_3 a1_4 a1_5 a0_0 a0_1 a0_2 a0_3 a0_4 a0_5 t6 w h9).mono fun _ _ h => h), (fun w => (gangsawref17_Gap.calls a0_0 a0_1 a0_2 a0_3 a0_4 a0_5 a1_0 a1_1 a1_2 a1_3 a1_4 a1_5 t5 w h7).mono fun _ _ h => h), (fun w => (bench_Gap.calls a0_0 a0_1 a0_2 a0_3 a0_4 a0_5 a1_0 a1_1 a1_2 a1_3 a1_4 a1_5 t4 w h6).mono fun _ _ h => h), (fun w => (gangsawlaw17_fits.calls a1_0 a1_1 a1_2 a1_3 a1_4 a1_5 true w h3).mono fun _ _ h => h), (fun w => (gangsawlaw17_fits.calls a0_0 a0_1 a0_2 a0_3 a0_4 a0_5 true w h2).mono fun _ _ h => h), (fun w => (gangsawlaw17_awake.calls  true w h1).mono fun _ _ h => h), trivial⟩ ⟨ks_add64, ks_add64, ks_neq false (by rw [decide_eq_true h10]; rfl), ks_neq false (by rw [decide_eq_true h8]; rfl), ks_gtr false (decide_eq_false h5), ks_lss false (decide_eq_false h4), trivial⟩ trivial rfl rfl w
                  | false =>
                    rw [if_neg (by decide)] at h
                    obtain rfl := Option.some.inj h
                    letI : Syms := symsOf [.int .i64 a0_0, .int .i64 a0_1, .int .i64 a0_2, .int .i64 a0_3, .int .i64 a0_4, .int .i64 a0_5, .int .i64 a1_0, .int .i64 a1_1, .int .i64 a1_2, .int .i64 a1_3, .int .i64 a1_4, .int .i64 a1_5, .int .i64 a2, .int .i64 t4, .int .i64 t5, .int .i64 t6, .int .i64 (wrap64 (a1_0 + a2)), .int .i64 (wrap64 (a1_3 + a2))] rfl
                    exact run_leaf (r := gangsawlaw17_BenchGaps.r6) RunC.follows RunC.noNum gangsawlaw17_BenchGaps.x6 ⟨(fun w => (gangsawref13_Proper.calls a0_0 a0_1 a0_2 a0_3 a0_4 a0_5 false w h12).mono fun _ _ h => h), (fun w => (gangsawlaw17_fits.calls (wrap64 (a1_0 + a2)) a1_1 a1_2 (wrap64 (a1_3 + a2)) a1_4 a1_5 true w h11).mono fun _ _ h => h), (fun w => (bench_Gap.calls a1_0 a1_1 a1_2 a1_3 a1_4 a1_5 a0_0 a0_1 a0_2 a0_3 a0_4 a0_5 t6 w h9).mono fun _ _ h => h), (fun w => (gangsawref17_Gap.calls a0_0 a0_1 a0_2 a0_3 a0_4 a0_5 a1_0 a1_1 a1_2 a1_3 a1_4 a1_5 t5 w h7).mono fun _ _ h => h), (fun w => (bench_Gap.calls a0_0 a0_1 a0_2 a0_3 a0_4 a0_5 a1_0 a1_1 a1_2 a1_3 a1_4 a1_5 t4 w h6).mono fun _ _ h => h), (fun w => (gangsawlaw17_fits.calls a1_0 a1_1 a1_2 a1_3 a1_4 a1_5 true w h3).mono fun _ _ h => h), (fun w => (gangsawlaw17_fits.calls a0_0 a0_1 a0_2 a0_3 a0_4 a0_5 true w h2).mono fun _ _ h => h), (fun w => (gangsawlaw17_awake.calls  true w h1).mono fun _ _ h => h), trivial⟩ ⟨ks_add64, ks_add64, ks_neq false (by rw [decide_eq_true h10]; rfl), ks_neq false (by rw [decide_eq_true h8]; rfl), ks_gtr false (decide_eq_false h5), ks_lss false (decide_eq_false h4), trivial⟩ trivial rfl rfl w
                | false =>
                  rw [if_neg (by decide)] at h
                  obtain rfl := Option.some.inj h
                  letI : Syms := symsOf [.int .i64 a0_0, .int .i64 a0_1, .int .i64 a0_2, .int .i64 a0_3, .int .i64 a0_4, .int .i64 a0_5, .int .i64 a1_0, .int .i64 a1_1, .int .i64 a1_2, .int .i64 a1_3, .int .i64 a1_4, .int .i64 a1_5, .int .i64 a2, .int .i64 t4, .int .i64 t5, .int .i64 t6, .int .i64 (wrap64 (a1_0 + a2)), .int .i64 (wrap64 (a1_3 + a2))] rfl
                  exact run_leaf (r := gangsawlaw17_BenchGaps.r7) RunC.follows RunC.noNum gangsawlaw17_BenchGaps.x7 ⟨(fun w => (gangsawlaw17_fits.calls (wrap64 (a1_0 + a2)) a1_1 a1_2 (wrap64 (a1_3 + a2)) a1_4 a1_5 false w h11).mono fun _ _ h => h), (fun w => (bench_Gap.calls a1_0 a1_1 a1_2 a1_3 a1_4 a1_5 a0_0 a0_1 a0_2 a0_3 a0_4 a0_5 t6 w h9).mono fun _ _ h => h), (fun w => (gangsawref17_Gap.calls a0_0 a0_1 a0_2 a0_3 a0_4 a0_5 a1_0 a1_1 a1_2 a1_3 a1_4 a1_5 t5 w h7).mono fun _ _ h => h), (fun w => (bench_Gap.calls a0_0 a0_1 a0_2 a0_3 a0_4 a0_5 a1_0 a1_1 a1_2 a1_3 a1_4 a1_5 t4 w h6).mono fun _ _ h => h), (fun w => (gangsawlaw17_fits.calls a1_0 a1_1 a1_2 a1_3 a1_4 a1_5 true w h3).mono fun _ _ h => h), (fun w => (gangsawlaw17_fits.calls a0_0 a0_1 a0_2 a0_3 a0_4 a0_5 true w h2).mono fun _ _ h => h), (fun w => (gangsawlaw17_awake.calls  true w h1).mono fun _ _ h => h), trivial⟩ ⟨ks_add64, ks_add64, ks_neq false (by rw [decide_eq_true h10]; rfl), ks_neq false (by rw [decide_eq_true h8]; rfl), ks_gtr false (decide_eq_false h5), ks_lss false (decide_eq_false h4), trivial⟩ trivial rfl rfl w
              · rw [if_neg h10] at h
                obtain rfl := Option.some.inj h
                letI : Syms := symsOf [.int .i64 a0_0, .int .i64 a0_1, .int .i64 a0_2, .int .i64 a0_3, .int .i64 a0_4, .int .i64 a0_5, .int .i64 a1_0, .int .i64 a1_1, .int .i64 a1_2, .int .i64 a1_3, .int .i64 a1_4, .int .i64 a1_5, .int .i64 a2, .int .i64 t4, .int .i64 t5, .int .i64 t6] rfl
                exact run_leaf (r := gangsawlaw17_BenchGaps.r8) RunC.follows RunC.noNum gangsawlaw17_BenchGaps.x8 ⟨(fun w => (bench_Gap.calls a1_0 a1_1 a1_2 a1_3 a1_4 a1_5 a0_0 a0_1 a0_2 a0_3 a0_4 a0_5 t6 w h9).mono fun _ _ h => h), (fun w => (gangsawref17_Gap.calls a0_0 a0_1 a0_2 a0_3 a0_4 a0_5 a1_0 a1_1 a1_2 a1_3 a1_4 a1_5 t5 w h7).mono fun _ _ h => h), (fun w => (bench_Gap.calls a0_0 a0_1 a0_2 a0_3 a0_4 a0_5 a1_0 a1_1 a1_2 a1_3 a1_4 a1_5 t4 w h6).mono fun _ _ h => h), (fun w => (gangsawlaw17_fits.calls a1_0 a1_1 a1_2 a1_3 a1_4 a1_5 true w h3).mono fun _ _ h => h), (fun w => (gangsawlaw17_fits.calls a0_0 a0_1 a0_2 a0_3 a0_4 a0_5 true w h2).mono fun _ _ h => h), (fun w => (gangsawlaw17_awake.calls  true w h1).mono fun _ _ h => h), trivial⟩ ⟨ks_neq true (by rw [decide_eq_false h10]; rfl), ks_neq false (by rw [decide_eq_true h8]; rfl), ks_gtr false (decide_eq_false h5), ks_lss false (decide_eq_false h4), trivial⟩ trivial rfl rfl w
            · rw [if_neg h8] at h
              obtain rfl := Option.some.inj h
              letI : Syms := symsOf [.int .i64 a0_0, .int .i64 a0_1, .int .i64 a0_2, .int .i64 a0_3, .int .i64 a0_4, .int .i64 a0_5, .int .i64 a1_0, .int .i64 a1_1, .int .i64 a1_2, .int .i64 a1_3, .int .i64 a1_4, .int .i64 a1_5, .int .i64 a2, .int .i64 t4, .int .i64 t5] rfl
              exact run_leaf (r := gangsawlaw17_BenchGaps.r9) RunC.follows RunC.noNum gangsawlaw17_BenchGaps.x9 ⟨(fun w => (gangsawref17_Gap.calls a0_0 a0_1 a0_2 a0_3 a0_4 a0_5 a1_0 a1_1 a1_2 a1_3 a1_4 a1_5 t5 w h7).mono fun _ _ h => h), (fun w => (bench_Gap.calls a0_0 a0_1 a0_2 a0_3 a0_4 a0_5 a1_0 a1_1 a1_2 a1_3 a1_4 a1_5 t4 w h6).mono fun _ _ h => h), (fun w => (gangsawlaw17_fits.calls a1_0 a1_1 a1_2 a1_3 a1_4 a1_5 true w h3).mono fun _ _ h => h), (fun w => (gangsawlaw17_fits.calls a0_0 a0_1 a0_2 a0_3 a0_4 a0_5 true w h2).mono fun _ _ h => h), (fun w => (gangsawlaw17_awake.calls  true w h1).mono fun _ _ h => h), trivial⟩ ⟨ks_neq true (by rw [decide_eq_false h8]; rfl), ks_gtr false (decide_eq_false h5), ks_lss false (decide_eq_false h4), trivial⟩ trivial rfl rfl w
      | false =>
        rw [if_neg (by decide)] at h
        obtain rfl := Option.some.inj h
        letI : Syms := symsOf [.int .i64 a0_0, .int .i64 a0_1, .int .i64 a0_2, .int .i64 a0_3, .int .i64 a0_4, .int .i64 a0_5, .int .i64 a1_0, .int .i64 a1_1, .int .i64 a1_2, .int .i64 a1_3, .int .i64 a1_4, .int .i64 a1_5, .int .i64 a2] rfl
        exact run_leaf (r := gangsawlaw17_BenchGaps.r10) RunC.follows RunC.noNum gangsawlaw17_BenchGaps.x10 ⟨(fun w => (gangsawlaw17_fits.calls a1_0 a1_1 a1_2 a1_3 a1_4 a1_5 false w h3).mono fun _ _ h => h), (fun w => (gangsawlaw17_fits.calls a0_0 a0_1 a0_2 a0_3 a0_4 a0_5 true w h2).mono fun _ _ h => h), (fun w => (gangsawlaw17_awake.calls  true w h1).mono fun _ _ h => h), trivial⟩ trivial trivial rfl rfl w
    | false =>
      rw [if_neg (by decide)] at h
      obtain rfl := Option.some.inj h
      letI : Syms := symsOf [.int .i64 a0_0, .int .i64 a0_1, .int .i64 a0_2, .int .i64 a0_3, .int .i64 a0_4, .int .i64 a0_5, .int .i64 a1_0, .int .i64 a1_1, .int .i64 a1_2, .int .i64 a1_3, .int .i64 a1_4, .int .i64 a1_5, .int .i64 a2] rfl
      exact run_leaf (r := gangsawlaw17_BenchGaps.r11) RunC.follows RunC.noNum gangsawlaw17_BenchGaps.x11 ⟨(fun w => (gangsawlaw17_fits.calls a0_0 a0_1 a0_2 a0_3 a0_4 a0_5 false w h2).mono fun _ _ h => h), (fun w => (gangsawlaw17_awake.calls  true w h1).mono fun _ _ h => h), trivial⟩ trivial trivial rfl rfl w
  | false =>
    rw [if_neg (by decide)] at h
    obtain rfl := Option.some.inj h
    letI : Syms := symsOf [.int .i64 a0_0, .int .i64 a0_1, .int .i64 a0_2, .int .i64 a0_3, .int .i64 a0_4, .int .i64 a0_5, .int .i64 a1_0, .int .i64 a1_1, .int .i64 a1_2, .int .i64 a1_3, .int .i64 a1_4, .int .i64 a1_5, .int .i64 a2] rfl
    exact run_leaf (r := gangsawlaw17_BenchGaps.r12) RunC.follows RunC.noNum gangsawlaw17_BenchGaps.x12 ⟨(fun w => (gangsawlaw17_awake.calls  false w h1).mono fun _ _ h => h), trivial⟩ trivial trivial rfl rfl w
end Go.Proofs.YtpbimdpjhnphgaaGreat.Sym
