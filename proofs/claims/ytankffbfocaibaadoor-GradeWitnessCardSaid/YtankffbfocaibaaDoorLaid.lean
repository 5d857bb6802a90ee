/- What the rows list of the package variables: a heap that meets it, and what a walk takes from it. -/
import Derived.Test.YtankffbfocaibaaDoorRows
import Derived.Test.YtankffbfocaibaaDoorAwk
import Derived.KernelRfl
import Derived.ProofKit
import Derived.LaidMore
import Derived.OpenShut
import Derived.Stop.Joined
set_option linter.unusedVariables false
namespace Go.Proofs.YtankffbfocaibaaDoor.Laid
open Go.ChangeShapes Go.WideShapes Go.ChangeAt Go.RowKit Go.Proofs.YtankffbfocaibaaDoor.Awk
def list : List (String × DataW Unit) := [("math/bits.deBruijn32tab", Rows.laid_math_bits_deBruijn32tab), ("math/bits.deBruijn64tab", Rows.laid_math_bits_deBruijn64tab), ("internal/strconv.uint64pow10", Rows.laid_internal_strconv_uint64pow10), ("gangsaw/grade.form", Rows.laid_gangsaw_grade_form)]
theorem door_met (os : Os) (args : Array Value) : laidMetH Tryd.prog list ((World.doorLaid Tryd.prog 400 os).forCall (fun _ _ => 0) ⟨#[], args, []⟩).memory :=
  laidMetH_of_parts3 (fuel := 8) (laidMet_of_run' 8 (by kernel_rfl) (by kernel_rfl)) (by kernel_rfl) (by kernel_rfl)
theorem gForm : Tryd.prog.globalNamed "gangsaw/grade.form" = some 0 := by kernel_rfl
theorem tForm : (Tryd.prog.globals[0]?).map (·.type) = some 71 := by kernel_rfl
theorem uForm : Tryd.prog.underlying 71 = some (.array 8 9) := by kernel_rfl
theorem uStr : Tryd.prog.underlying 9 = some .string := by kernel_rfl
theorem c71 : Tryd.prog.cellsOf 71 = 8 := by kernel_rfl
theorem c9 : Tryd.prog.cellsOf 9 = 1 := by kernel_rfl
theorem eight {α : Type} {l : List α} (h : l.length = 8) : ∃ a b c d e f g i, l = [a, b, c, d, e, f, g, i] := by
  match l, h with
  | [a, b, c, d, e, f, g, i], _ => exact ⟨a, b, c, d, e, f, g, i, rfl⟩
theorem str_of {s : ByteArray} {l : List UInt8} (h : s.data.toList = l) : s = ⟨l.toArray⟩ := by
  cases s with
  | mk d => cases h; simp
theorem gPow : Tryd.prog.globalNamed "internal/strconv.uint64pow10" = some 1 := by kernel_rfl
theorem tPow : (Tryd.prog.globals[1]?).map (·.type) = some 136 := by kernel_rfl
theorem uPow : Tryd.prog.underlying 136 = some (.array 20 121) := by kernel_rfl
theorem uU64 : Tryd.prog.underlying 121 = some (.int .u64) := by kernel_rfl
theorem cPow : Tryd.prog.cellsOf 136 = 20 := by kernel_rfl
theorem cU64 : Tryd.prog.cellsOf 121 = 1 := by kernel_rfl
theorem ints_of {W : World} {m : Nat} : ∀ {cs : List Value} {xs : List (DataW Unit × List MemPlace)}, cs.length = xs.length → (∀ i, i < xs.length → DataW.trod (fun _ => ()) Tryd.prog W 0 (fun _ => true) false m 121 (List.take 1 (List.drop (i * 1) cs)) = xs[i]?) →
    ∃ ks : List Int, cs = ks.map (fun n => Value.int .u64 n) ∧ xs.map (fun x => x.1) = ks.map (fun n => (DataW.lit (.int .u64 n) : DataW Unit))
  | [], [], _, _ => ⟨[], rfl, rfl⟩
  | c :: cs, x :: xs, hl, h => by
    obtain ⟨k, e1, e2, _⟩ := DataW.trod_int uU64 (show DataW.trod _ _ W 0 _ false m 121 [c] = some x from h 0 (by simp))
    obtain ⟨ks, h1, h2⟩ := ints_of (cs := cs) (xs := xs) (by simpa using hl) (fun i hi => by have := h (i + 1) (by simp; omega); simpa using this)
    rw [List.cons.injEq] at e1
    exact ⟨k :: ks, by rw [e1.1, h1]; rfl, by rw [List.map_cons, h2, e2]; rfl⟩
  | [], _ :: _, hl, _ => by simp at hl
  | _ :: _, [], hl, _ => by simp at hl
theorem pow_at {W : World} {g t f : Nat} {cs : Array Value} {p ps : List MemPlace} (hg : Tryd.prog.globalNamed "internal/strconv.uint64pow10" = some g) (ht : (Tryd.prog.globals[g]?).map (·.type) = some t) (hv : W.var? Tryd.prog "internal/strconv.uint64pow10" = some cs)
    (hd : DataW.trod (fun _ => ()) Tryd.prog W 0 (fun _ => true) false f t cs.toList = some (Rows.laid_internal_strconv_uint64pow10, p)) (hfr : ∀ b off, MemPlace.cell b off ∈ ps → ∃ c t, W.heap[b]? = some (.cells c t (0, 0))) (hm : ∀ x, x ∈ MemPlace.row ⟨g, 0, none⟩ cs.size → x ∈ ps) : PowAt W := by
  obtain rfl := Option.some.inj (gPow.symm.trans hg)
  obtain rfl : 136 = t := Option.some.inj (tPow.symm.trans ht)
  obtain ⟨xs, m1, rfl, hx1, hlen, hn, hel⟩ := DataW.trod_array uPow hd
  rw [cPow] at hlen
  rw [cU64] at hel
  obtain ⟨ks, h1, h2⟩ := ints_of (W := W) (m := m1) (cs := cs.toList) (xs := xs) (by omega) (fun i hi => hel i (by omega))
  have e : ks = powL := by
    have h3 : xs.map (fun x => x.1) = powL.map (fun n => (DataW.lit (.int .u64 n) : DataW Unit)) := by
      have h4 := congrArg Prod.fst hx1
      simp only [Rows.laid_internal_strconv_uint64pow10, DataW.agg.injEq] at h4
      rw [← h4]; rfl
    rw [h2] at h3
    refine (List.map_inj_right (fun x y h => ?_)).1 h3
    simpa using h
  have z : cs = powV.toArray := by
    have : cs.toList = powV := by rw [h1, e]; rfl
    rw [← this]
  obtain ⟨c, t, hc⟩ := hfr 1 0 (hm _ (List.mem_map.2 ⟨0, List.mem_range.2 (by rw [z]; decide), rfl⟩))
  refine ⟨t, ?_⟩
  rw [hc]
  unfold World.var? at hv
  rw [gPow] at hv
  simp only [Option.bind_some, hc, Option.some.injEq] at hv
  rw [← z, ← hv]
theorem of_laid {W : World} (h : laidMetH Tryd.prog list W) : LaidAt W := by
  rw [MakeChecks.laidMetH_plain _ _ _ (by kernel_rfl)] at h
  obtain ⟨ps, ⟨g0, t0, cs0, f0, p0, q0, hg0, ht0, hv0, hd0, ⟨g1, t1, cs1, f1, p1, q1, hg1, ht1, hv1, hd1, ⟨g2, t2, cs2, f2, p2, q2, hg2, ht2, hv2, hd2, ⟨g3, t3, cs3, f3, p3, q3, hg3, ht3, hv3, hd3, hz, he3⟩, he2⟩, he1⟩, he0⟩, hnd, hfr⟩ := h
  refine ⟨?_, ?_⟩
  rotate_left
  · exact pow_at hg2 ht2 hv2 hd2 (fun b off hb => (hfr b off hb).1) (by rw [he0, he1, he2]; intro x hx; simp only [List.mem_append, hx, true_or, or_true])
  obtain rfl := Option.some.inj (gForm.symm.trans hg3)
  obtain rfl : 71 = t3 := Option.some.inj (tForm.symm.trans ht3)
  obtain ⟨xs, m1, rfl, hx1, hlen, hn8, hel⟩ := DataW.trod_array uForm hd3
  rw [c71] at hlen
  rw [c9] at hel
  obtain ⟨a0, a1, a2, a3, a4, a5, a6, a7, hcs⟩ := eight hlen
  obtain ⟨x0, x1, x2, x3, x4, x5, x6, x7, rfl⟩ := eight hn8
  rw [hcs] at hel
  obtain ⟨s0, e0, r0, _⟩ := DataW.trod_string uStr (show DataW.trod _ _ W 0 _ false m1 9 [a0] = some x0 from hel 0 (by decide))
  obtain ⟨s1, e1, r1, _⟩ := DataW.trod_string uStr (show DataW.trod _ _ W 0 _ false m1 9 [a1] = some x1 from hel 1 (by decide))
  obtain ⟨s2, e2, r2, _⟩ := DataW.trod_string uStr (show DataW.trod _ _ W 0 _ false m1 9 [a2] = some x2 from hel 2 (by decide))
  obtain ⟨s3, e3, r3, _⟩ := DataW.trod_string uStr (show DataW.trod _ _ W 0 _ false m1 9 [a3] = some x3 from hel 3 (by decide))
  obtain ⟨s4, e4, r4, _⟩ := DataW.trod_string uStr (show DataW.trod _ _ W 0 _ false m1 9 [a4] = some x4 from hel 4 (by decide))
  obtain ⟨s5, e5, r5, _⟩ := DataW.trod_string uStr (show DataW.trod _ _ W 0 _ false m1 9 [a5] = some x5 from hel 5 (by decide))
  obtain ⟨s6, e6, r6, _⟩ := DataW.trod_string uStr (show DataW.trod _ _ W 0 _ false m1 9 [a6] = some x6 from hel 6 (by decide))
  obtain ⟨s7, e7, r7, _⟩ := DataW.trod_string uStr (show DataW.trod _ _ W 0 _ false m1 9 [a7] = some x7 from hel 7 (by decide))
  subst r0 r1 r2 r3 r4 r5 r6 r7
  simp only [Rows.laid_gangsaw_grade_form, List.map_cons, List.map_nil, Prod.mk.injEq, DataW.agg.injEq, List.cons.injEq, DataW.lit.injEq, Lit.string.injEq, and_true] at hx1
  obtain ⟨⟨h0, h1, h2, h3, h4, h5, h6, h7⟩, _⟩ := hx1
  have z : cs3 = form.toArray := by
    have hh : cs3.toList = form := by
      rw [hcs]
      rw [List.cons.injEq] at e0 e1 e2 e3 e4 e5 e6 e7
      rw [e0.1, e1.1, e2.1, e3.1, e4.1, e5.1, e6.1, e7.1, str_of h0.symm, str_of h1.symm, str_of h2.symm, str_of h3.symm, str_of h4.symm, str_of h5.symm, str_of h6.symm, str_of h7.symm]
      rfl
    rw [← hh]
  have hm : MemPlace.cell 0 0 ∈ ps := by
    rw [he0, he1, he2, he3]
    have : MemPlace.cell 0 0 ∈ MemPlace.row ⟨0, 0, none⟩ cs3.size := by
      rw [z]
      exact List.mem_map.2 ⟨0, List.mem_range.2 (by decide), rfl⟩
    simp only [List.mem_append, this, true_or, or_true]
  obtain ⟨⟨c, t, hc⟩, _⟩ := hfr 0 0 hm
  refine ⟨t, ?_⟩
  rw [hc]
  unfold World.var? at hv3
  rw [gForm] at hv3
  simp only [Option.bind_some, hc, Option.some.injEq] at hv3
  rw [← z, ← hv3]
end Go.Proofs.YtankffbfocaibaaDoor.Laid
