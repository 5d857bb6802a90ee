/- What the rows list of the package variables: a heap that meets it, and what a walk takes from it. -/
import Derived.Test.YtnaahepnabmibaaGreatDoorRows
import Derived.Test.YtnaahepnabmibaaGreatDoorAwk
import Derived.KernelRfl
import Derived.ProofKit
import Derived.LaidMore
import Derived.OpenShut
import Derived.Stop.Joined
set_option linter.unusedVariables false
namespace Go.Proofs.YtnaahepnabmibaaGreatDoor.Laid
open Go.ChangeShapes Go.WideShapes Go.ChangeAt Go.RowKit Go.Proofs.YtnaahepnabmibaaGreatDoor.Awk
def list : List (String × DataW Unit) := [("math/bits.deBruijn32tab", Rows.laid_math_bits_deBruijn32tab), ("math/bits.deBruijn64tab", Rows.laid_math_bits_deBruijn64tab), ("internal/strconv.uint64pow10", Rows.laid_internal_strconv_uint64pow10), ("gangsaw/slab.kinds", Rows.laid_gangsaw_slab_kinds)]
theorem door_met (os : Os) (args : Array Value) : laidMetH Tryz.prog list ((World.doorLaid Tryz.prog 400 os).forCall (fun _ _ => 0) ⟨#[], args, []⟩).memory :=
  laidMetH_of_parts3 (fuel := 8) (laidMet_of_run' 8 (by kernel_rfl) (by kernel_rfl)) (by kernel_rfl) (by kernel_rfl)
theorem gPow : Tryz.prog.globalNamed "internal/strconv.uint64pow10" = some 2 := by kernel_rfl
theorem tPow : (Tryz.prog.globals[2]?).map (·.type) = some 183 := by kernel_rfl
theorem uPow : Tryz.prog.underlying 183 = some (.array 20 137) := by kernel_rfl
theorem ePow : Tryz.prog.underlying 137 = some (.int .u64) := by kernel_rfl
theorem cPow : Tryz.prog.cellsOf 183 = 20 := by kernel_rfl
theorem dPow : Tryz.prog.cellsOf 137 = 1 := by kernel_rfl
theorem intsPow {W : World} {m : Nat} : ∀ {cs : List Value} {xs : List (DataW Unit × List MemPlace)}, cs.length = xs.length → (∀ i, i < xs.length → DataW.trod (fun _ => ()) Tryz.prog W 0 (fun _ => true) false m 137 (List.take 1 (List.drop (i * 1) cs)) = xs[i]?) →
    ∃ ks : List Int, cs = ks.map (fun n => Value.int .u64 n) ∧ xs.map (fun x => x.1) = ks.map (fun n => (DataW.lit (.int .u64 n) : DataW Unit))
  | [], [], _, _ => ⟨[], rfl, rfl⟩
  | c :: cs, x :: xs, hl, h => by
    obtain ⟨k, e1, e2, _⟩ := DataW.trod_int ePow (show DataW.trod _ _ W 0 _ false m 137 [c] = some x from h 0 (by simp))
    obtain ⟨ks, h1, h2⟩ := intsPow (cs := cs) (xs := xs) (by simpa using hl) (fun i hi => by have := h (i + 1) (by simp; omega); simpa using this)
    rw [List.cons.injEq] at e1
    exact ⟨k :: ks, by rw [e1.1, h1]; rfl, by rw [List.map_cons, h2, e2]; rfl⟩
  | [], _ :: _, hl, _ => by simp at hl
  | _ :: _, [], hl, _ => by simp at hl
theorem atPow {W : World} {g t f : Nat} {cs : Array Value} {p ps : List MemPlace} (hg : Tryz.prog.globalNamed "internal/strconv.uint64pow10" = some g) (ht : (Tryz.prog.globals[g]?).map (·.type) = some t) (hv : W.var? Tryz.prog "internal/strconv.uint64pow10" = some cs)
    (hd : DataW.trod (fun _ => ()) Tryz.prog W 0 (fun _ => true) false f t cs.toList = some (Rows.laid_internal_strconv_uint64pow10, p)) (hfr : ∀ b off, MemPlace.cell b off ∈ ps → ∃ c t, W.heap[b]? = some (.cells c t (0, 0))) (hm : ∀ x, x ∈ MemPlace.row ⟨g, 0, none⟩ cs.size → x ∈ ps) : PowAt W := by
  obtain rfl := Option.some.inj (gPow.symm.trans hg)
  obtain rfl : 183 = t := Option.some.inj (tPow.symm.trans ht)
  obtain ⟨xs, m1, rfl, hx1, hlen, hn, hel⟩ := DataW.trod_array uPow hd
  rw [cPow] at hlen
  rw [dPow] at hel
  obtain ⟨ks, h1, h2⟩ := intsPow (W := W) (m := m1) (cs := cs.toList) (xs := xs) (by omega) (fun i hi => hel i (by omega))
  have e : ks = powL := by
    have h3 : xs.map (fun x => x.1) = powL.map (fun n => (DataW.lit (.int .u64 n) : DataW Unit)) := by
      have h4 := congrArg Prod.fst hx1
      simp only [Rows.laid_internal_strconv_uint64pow10, DataW.agg.injEq] at h4
      rw [← h4]; rfl
    rw [h2] at h3
    refine (List.map_inj_right (fun x y h => ?_)).1 h3
    simpa using h
  have z : cs = powV.toArray := by
    have : cs.toList = powV := by rw [h1, e]; rfl
    rw [← this]
  obtain ⟨c, t, hc⟩ := hfr 2 0 (hm _ (List.mem_map.2 ⟨0, List.mem_range.2 (by rw [z]; decide), rfl⟩))
  refine ⟨t, ?_⟩
  rw [hc]
  unfold World.var? at hv
  rw [gPow] at hv
  simp only [Option.bind_some, hc, Option.some.injEq] at hv
  rw [← z, ← hv]
theorem gKind : Tryz.prog.globalNamed "gangsaw/slab.kinds" = some 0 := by kernel_rfl
theorem tKind : (Tryz.prog.globals[0]?).map (·.type) = some 89 := by kernel_rfl
theorem uKind : Tryz.prog.underlying 89 = some (.array 7 3) := by kernel_rfl
theorem eKind : Tryz.prog.underlying 3 = some (.int .i64) := by kernel_rfl
theorem cKind : Tryz.prog.cellsOf 89 = 7 := by kernel_rfl
theorem dKind : Tryz.prog.cellsOf 3 = 1 := by kernel_rfl
theorem intsKind {W : World} {m : Nat} : ∀ {cs : List Value} {xs : List (DataW Unit × List MemPlace)}, cs.length = xs.length → (∀ i, i < xs.length → DataW.trod (fun _ => ()) Tryz.prog W 0 (fun _ => true) false m 3 (List.take 1 (List.drop (i * 1) cs)) = xs[i]?) →
    ∃ ks : List Int, cs = ks.map (fun n => Value.int .i64 n) ∧ xs.map (fun x => x.1) = ks.map (fun n => (DataW.lit (.int .i64 n) : DataW Unit))
  | [], [], _, _ => ⟨[], rfl, rfl⟩
  | c :: cs, x :: xs, hl, h => by
    obtain ⟨k, e1, e2, _⟩ := DataW.trod_int eKind (show DataW.trod _ _ W 0 _ false m 3 [c] = some x from h 0 (by simp))
    obtain ⟨ks, h1, h2⟩ := intsKind (cs := cs) (xs := xs) (by simpa using hl) (fun i hi => by have := h (i + 1) (by simp; omega); simpa using this)
    rw [List.cons.injEq] at e1
    exact ⟨k :: ks, by rw [e1.1, h1]; rfl, by rw [List.map_cons, h2, e2]; rfl⟩
  | [], _ :: _, hl, _ => by simp at hl
  | _ :: _, [], hl, _ => by simp at hl
theorem atKind {W : World} {g t f : Nat} {cs : Array Value} {p ps : List MemPlace} (hg : Tryz.prog.globalNamed "gangsaw/slab.kinds" = some g) (ht : (Tryz.prog.globals[g]?).map (·.type) = some t) (hv : W.var? Tryz.prog "gangsaw/slab.kinds" = some cs)
    (hd : DataW.trod (fun _ => ()) Tryz.prog W 0 (fun _ => true) false f t cs.toList = some (Rows.laid_gangsaw_slab_kinds, p)) (hfr : ∀ b off, MemPlace.cell b off ∈ ps → ∃ c t, W.heap[b]? = some (.cells c t (0, 0))) (hm : ∀ x, x ∈ MemPlace.row ⟨g, 0, none⟩ cs.size → x ∈ ps) : KindAt W := by
  obtain rfl := Option.some.inj (gKind.symm.trans hg)
  obtain rfl : 89 = t := Option.some.inj (tKind.symm.trans ht)
  obtain ⟨xs, m1, rfl, hx1, hlen, hn, hel⟩ := DataW.trod_array uKind hd
  rw [cKind] at hlen
  rw [dKind] at hel
  obtain ⟨ks, h1, h2⟩ := intsKind (W := W) (m := m1) (cs := cs.toList) (xs := xs) (by omega) (fun i hi => hel i (by omega))
  have e : ks = kindL := by
    have h3 : xs.map (fun x => x.1) = kindL.map (fun n => (DataW.lit (.int .i64 n) : DataW Unit)) := by
      have h4 := congrArg Prod.fst hx1
      simp only [Rows.laid_gangsaw_slab_kinds, DataW.agg.injEq] at h4
      rw [← h4]; rfl
    rw [h2] at h3
    refine (List.map_inj_right (fun x y h => ?_)).1 h3
    simpa using h
  have z : cs = kindV.toArray := by
    have : cs.toList = kindV := by rw [h1, e]; rfl
    rw [← this]
  obtain ⟨c, t, hc⟩ := hfr 0 0 (hm _ (List.mem_map.2 ⟨0, List.mem_range.2 (by rw [z]; decide), rfl⟩))
  refine ⟨t, ?_⟩
  rw [hc]
  unfold World.var? at hv
  rw [gKind] at hv
  simp only [Option.bind_some, hc, Option.some.injEq] at hv
  rw [← z, ← hv]
theorem of_laid {W : World} (h : laidMetH Tryz.prog list W) : LaidAt W := by
  rw [MakeChecks.laidMetH_plain _ _ _ (by kernel_rfl)] at h
  obtain ⟨ps, ⟨g0, t0, cs0, f0, p0, q0, hg0, ht0, hv0, hd0, ⟨g1, t1, cs1, f1, p1, q1, hg1, ht1, hv1, hd1, ⟨g2, t2, cs2, f2, p2, q2, hg2, ht2, hv2, hd2, ⟨g3, t3, cs3, f3, p3, q3, hg3, ht3, hv3, hd3, hz, he3⟩, he2⟩, he1⟩, he0⟩, hnd, hfr⟩ := h
  refine ⟨?_, ?_⟩
  · exact atKind hg3 ht3 hv3 hd3 (fun b off hb => (hfr b off hb).1) (by rw [he0, he1, he2, he3]; intro x hx; simp only [List.mem_append, hx, true_or, or_true])
  · exact atPow hg2 ht2 hv2 hd2 (fun b off hb => (hfr b off hb).1) (by rw [he0, he1, he2]; intro x hx; simp only [List.mem_append, hx, true_or, or_true])
end Go.Proofs.YtnaahepnabmibaaGreatDoor.Laid
