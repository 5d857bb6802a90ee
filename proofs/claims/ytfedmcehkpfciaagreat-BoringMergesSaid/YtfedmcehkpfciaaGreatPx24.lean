/- What functions of the program return: each contract says so of one function, for every input at which its pure function yields. -/
import Derived.Test.YtfedmcehkpfciaaGreatPx0
import Derived.Test.YtfedmcehkpfciaaGreatPx1
import Derived.Test.YtfedmcehkpfciaaGreatPx15
import Derived.Test.YtfedmcehkpfciaaGreatPx16
import Derived.Test.YtfedmcehkpfciaaGreatPx18
import Derived.Test.YtfedmcehkpfciaaGreatPx23
namespace Go.Proofs.YtfedmcehkpfciaaGreat.P
open Go.RowKit Go.Proofs.YtfedmcehkpfciaaGreatW.PrintWords Go.Proofs.YtfedmcehkpfciaaGreatW.PrintLast Go.Proofs.YtfedmcehkpfciaaGreatW.PrintMore
attribute [local go_sem] max2_int min2_int max_two min_two max_three min_three max_four min_four   -- for this text's walks alone
set_option linter.unusedVariables false
set_option linter.unusedSimpArgs false

attribute [local go_sem high] eqA30
mutual
def gangsawref14_Merge.l0 : Nat → List Int → Int → ByteArray → Int → Int → List (S48) → ByteArray → Int → Int → List (S48) → ByteArray → Int → Int → List (S48) → Option (ByteArray × Int × Int × (List (S48)) × Int)
 | 0, _, _, _, _, _, _, _, _, _, _, _, _, _, _ => none
 | k + 1, x9, x10, x317000, x317001, x317002, x317003, x318000, x318001, x318002, x318003, x322000, x322001, x322002, x322003 => if (wrap64 (x10 + 1)) < (x9.length : Int) then (if 0 ≤ x10 then (if x10 < (x9.length : Int) then (if 0 ≤ (wrap64 (x10 + 1)) then (if (rd x9 x10) = (rd x9 (wrap64 (x10 + 1))) then (gangsawref14_Merge.l0 k x9 (wrap64 (x10 + 1)) x317000 x317001 x317002 x317003 x318000 x318001 x318002 x318003 x322000 x322001 x322002 x322003) else ((gangsawref14_State.f k x317000 x317001 x317002 x317003 (rd x9 x10)).bind fun t331 => ((gangsawref14_State.f k x318000 x318001 x318002 x318003 (rd x9 x10)).bind fun t333 => (if t331 = 0 then (gangsawref14_Merge.j1 k x9 x10 t331 t333 false x317000 x317001 x317002 x317003 x318000 x318001 x318002 x318003 x322000 x322001 x322002 x322003) else (if t333 = 0 then (gangsawref14_Merge.j1 k x9 x10 t331 t333 false x317000 x317001 x317002 x317003 x318000 x318001 x318002 x318003 x322000 x322001 x322002 x322003) else (gangsawref14_Merge.j1 k x9 x10 t331 t333 (t331 != t333) x317000 x317001 x317002 x317003 x318000 x318001 x318002 x318003 x322000 x322001 x322002 x322003)))))) else (none)) else (none)) else (none)) else ((gangsawref14_joined.f k x322003).bind fun t325 => (some (x322000, x322001, x322002, t325, 0)))
def gangsawref14_Merge.j1 : Nat → List Int → Int → Int → Int → Bool → ByteArray → Int → Int → List (S48) → ByteArray → Int → Int → List (S48) → ByteArray → Int → Int → List (S48) → Option (ByteArray × Int × Int × (List (S48)) × Int)
 | 0, _, _, _, _, _, _, _, _, _, _, _, _, _, _, _, _, _ => none
 | k + 1, x9, x10, x11, x12, x78, x317000, x317001, x317002, x317003, x318000, x318001, x318002, x318003, x322000, x322001, x322002, x322003 => if x78 = true then (some ((⟨#[]⟩ : ByteArray), 0, 0, ([] : List (S48)), 10)) else (if x11 = 0 then (if x12 = 0 then (gangsawref14_Merge.l0 k x9 (wrap64 (x10 + 1)) x317000 x317001 x317002 x317003 x318000 x318001 x318002 x318003 x322000 x322001 x322002 x322003) else (if 0 ≤ x10 then (if x10 < (x9.length : Int) then (if 0 ≤ (wrap64 (x10 + 1)) then (if (wrap64 (x10 + 1)) < (x9.length : Int) then (if x322003.length < 5864062014805 then (gangsawref14_Merge.l0 k x9 (wrap64 (x10 + 1)) x317000 x317001 x317002 x317003 x318000 x318001 x318002 x318003 x322000 x322001 x322002 (x322003 ++ [(⟨rd x9 x10, rd x9 (wrap64 (x10 + 1)), x12⟩ : S48)])) else (none)) else (none)) else (none)) else (none)) else (none))) else (if 0 ≤ x10 then (if x10 < (x9.length : Int) then (if 0 ≤ (wrap64 (x10 + 1)) then (if (wrap64 (x10 + 1)) < (x9.length : Int) then (if x322003.length < 5864062014805 then (gangsawref14_Merge.l0 k x9 (wrap64 (x10 + 1)) x317000 x317001 x317002 x317003 x318000 x318001 x318002 x318003 x322000 x322001 x322002 (x322003 ++ [(⟨rd x9 x10, rd x9 (wrap64 (x10 + 1)), x11⟩ : S48)])) else (none)) else (none)) else (none)) else (none)) else (none)))
end
def gangsawref14_Merge.f (k : Nat) (a0_0 : ByteArray) (a0_1 : Int) (a0_2 : Int) (l0_3 : List (S48)) (a1_0 : ByteArray) (a1_1 : Int) (a1_2 : Int) (l1_3 : List (S48)) : Option (ByteArray × Int × Int × (List (S48)) × Int) := (gangsawref14_Formed.f k a0_0 a0_1 a0_2 l0_3).bind fun t319 => (if t319 = 0 then ((gangsawref14_Formed.f k a1_0 a1_1 a1_2 l1_3).bind fun t320 => (if t320 = 0 then (if (!(a0_1 == a1_1) || (!(a0_2 == a1_2))) = true then (some ((⟨#[]⟩ : ByteArray), 0, 0, ([] : List (S48)), 10)) else ((gangsawref14_ends.f k a0_0 a0_1 a0_2 l0_3 a1_0 a1_1 a1_2 l1_3).bind fun t322 => (gangsawref14_Merge.l0 k t322 0 a0_0 a0_1 a0_2 l0_3 a1_0 a1_1 a1_2 l1_3 a0_0 a0_1 a0_2 ([] : List (S48))))) else (some ((⟨#[]⟩ : ByteArray), 0, 0, ([] : List (S48)), t320)))) else (some ((⟨#[]⟩ : ByteArray), 0, 0, ([] : List (S48)), t319)))
theorem gangsawref14_Merge.mono_l : ∀ k, (∀ y0 y1 y2 y3 y4 y5 y6 y7 y8 y9 y10 y11 y12 y13, LeO (gangsawref14_Merge.l0 k y0 y1 y2 y3 y4 y5 y6 y7 y8 y9 y10 y11 y12 y13) (gangsawref14_Merge.l0 (k + 1) y0 y1 y2 y3 y4 y5 y6 y7 y8 y9 y10 y11 y12 y13)) ∧ (∀ y0 y1 y2 y3 y4 y5 y6 y7 y8 y9 y10 y11 y12 y13 y14 y15 y16, LeO (gangsawref14_Merge.j1 k y0 y1 y2 y3 y4 y5 y6 y7 y8 y9 y10 y11 y12 y13 y14 y15 y16) (gangsawref14_Merge.j1 (k + 1) y0 y1 y2 y3 y4 y5 y6 y7 y8 y9 y10 y11 y12 y13 y14 y15 y16))
 | 0 => ⟨fun _ _ _ _ _ _ _ _ _ _ _ _ _ _ r h => by simp [gangsawref14_Merge.l0] at h, fun _ _ _ _ _ _ _ _ _ _ _ _ _ _ _ _ _ r h => by simp [gangsawref14_Merge.j1] at h⟩
 | k + 1 => by
  obtain ⟨ih0, ih1⟩ := gangsawref14_Merge.mono_l k
  refine ⟨?_, ?_⟩
  ·intro y0 y1 y2 y3 y4 y5 y6 y7 y8 y9 y10 y11 y12 y13
   unfold gangsawref14_Merge.l0
   repeat' first
   | (with_reducible exact ih0 _ _ _ _ _ _ _ _ _ _ _ _ _ _)
   | (with_reducible exact ih1 _ _ _ _ _ _ _ _ _ _ _ _ _ _ _ _ _)
   | (with_reducible exact gangsawref14_Formed.mono _ _ _ _ _)
   | (with_reducible exact gangsawref14_State.mono _ _ _ _ _ _)
   | (with_reducible exact gangsawref14_ends.mono _ _ _ _ _ _ _ _ _)
   | (with_reducible exact gangsawref14_joined.mono _ _)
   | (with_reducible exact LeO.refl _)
   | (with_reducible exact LeO.none _)
   | (with_reducible refine LeO.ite ?_ ?_)
   | (with_reducible refine LeO.bind ?_ (fun _ => ?_))
   | exact ih0 _ _ _ _ _ _ _ _ _ _ _ _ _ _
   | exact ih1 _ _ _ _ _ _ _ _ _ _ _ _ _ _ _ _ _
   | exact gangsawref14_Formed.mono _ _ _ _ _
   | exact gangsawref14_State.mono _ _ _ _ _ _
   | exact gangsawref14_ends.mono _ _ _ _ _ _ _ _ _
   | exact gangsawref14_joined.mono _ _
   | exact LeO.none _
   | refine LeO.ite ?_ ?_
   | refine LeO.bind ?_ (fun _ => ?_)
  ·intro y0 y1 y2 y3 y4 y5 y6 y7 y8 y9 y10 y11 y12 y13 y14 y15 y16
   unfold gangsawref14_Merge.j1
   repeat' first
   | (with_reducible exact ih0 _ _ _ _ _ _ _ _ _ _ _ _ _ _)
   | (with_reducible exact ih1 _ _ _ _ _ _ _ _ _ _ _ _ _ _ _ _ _)
   | (with_reducible exact gangsawref14_Formed.mono _ _ _ _ _)
   | (with_reducible exact gangsawref14_State.mono _ _ _ _ _ _)
   | (with_reducible exact gangsawref14_ends.mono _ _ _ _ _ _ _ _ _)
   | (with_reducible exact gangsawref14_joined.mono _ _)
   | (with_reducible exact LeO.refl _)
   | (with_reducible exact LeO.none _)
   | (with_reducible refine LeO.ite ?_ ?_)
   | (with_reducible refine LeO.bind ?_ (fun _ => ?_))
   | exact ih0 _ _ _ _ _ _ _ _ _ _ _ _ _ _
   | exact ih1 _ _ _ _ _ _ _ _ _ _ _ _ _ _ _ _ _
   | exact gangsawref14_Formed.mono _ _ _ _ _
   | exact gangsawref14_State.mono _ _ _ _ _ _
   | exact gangsawref14_ends.mono _ _ _ _ _ _ _ _ _
   | exact gangsawref14_joined.mono _ _
   | exact LeO.none _
   | refine LeO.ite ?_ ?_
   | refine LeO.bind ?_ (fun _ => ?_)
theorem gangsawref14_Merge.mono : ∀ a0 a1 a2 a3 a4 a5 a6 a7 k, LeO (gangsawref14_Merge.f k a0 a1 a2 a3 a4 a5 a6 a7) (gangsawref14_Merge.f (k + 1) a0 a1 a2 a3 a4 a5 a6 a7) := by
 intro a0 a1 a2 a3 a4 a5 a6 a7 k
 obtain ⟨ih0, ih1⟩ := gangsawref14_Merge.mono_l k
 unfold gangsawref14_Merge.f
 repeat' first
   | (with_reducible exact ih0 _ _ _ _ _ _ _ _ _ _ _ _ _ _)
   | (with_reducible exact ih1 _ _ _ _ _ _ _ _ _ _ _ _ _ _ _ _ _)
   | (with_reducible exact gangsawref14_Formed.mono _ _ _ _ _)
   | (with_reducible exact gangsawref14_State.mono _ _ _ _ _ _)
   | (with_reducible exact gangsawref14_ends.mono _ _ _ _ _ _ _ _ _)
   | (with_reducible exact gangsawref14_joined.mono _ _)
   | (with_reducible exact LeO.refl _)
   | (with_reducible exact LeO.none _)
   | (with_reducible refine LeO.ite ?_ ?_)
   | (with_reducible refine LeO.bind ?_ (fun _ => ?_))
   | exact ih0 _ _ _ _ _ _ _ _ _ _ _ _ _ _
   | exact ih1 _ _ _ _ _ _ _ _ _ _ _ _ _ _ _ _ _
   | exact gangsawref14_Formed.mono _ _ _ _ _
   | exact gangsawref14_State.mono _ _ _ _ _ _
   | exact gangsawref14_ends.mono _ _ _ _ _ _ _ _ _
   | exact gangsawref14_joined.mono _ _
   | exact LeO.none _
   | refine LeO.ite ?_ ?_
   | refine LeO.bind ?_ (fun _ => ?_)
def gangsawref14_Merge.T14 : Bool × List (List Nat × List Nat) := (true, [([], []), ([], []), ([0, 1], [0, 1]), ([2], [2]), ([], []), ([], []), ([5], [5]), ([4, 6], [4, 6]), ([7], [7]), ([3, 8], [3, 8])])
def gangsawref14_Merge.B14 : List Nat := [0, 0, 3, 7, 0, 0, 32, 112, 240, 511]
theorem gangsawref14_Merge.tab14 : rtab .any (opsOf Tryz.f27 14) = gangsawref14_Merge.T14 := by kernel_rfl
theorem gangsawref14_Merge.bits14 : waitsOk gangsawref14_Merge.T14.2 gangsawref14_Merge.B14 = true := by kernel_rfl
def gangsawref14_Merge.T15 : Bool × List (List Nat × List Nat) := (true, [([], []), ([], []), ([], []), ([1, 2], [1, 2]), ([3], [3]), ([0, 4], [0, 4]), ([], []), ([], []), ([], []), ([7, 8], [7, 8]), ([9], [9]), ([6, 10, 5], [6, 10]), ([5, 11, 0, 1, 2, 3, 4, 5], [5]), ([11, 12, 0, 1, 2, 3, 4, 5, 6, 7, 8, 9, 10, 11, 12], [11])])
def gangsawref14_Merge.B15 : List Nat := [0, 0, 0, 6, 14, 31, 0, 0, 0, 384, 896, 2047, 4095, 8191]
theorem gangsawref14_Merge.tab15 : rtab .any (opsOf Tryz.f27 15) = gangsawref14_Merge.T15 := by kernel_rfl
theorem gangsawref14_Merge.bits15 : waitsOk gangsawref14_Merge.T15.2 gangsawref14_Merge.B15 = true := by kernel_rfl
def gangsawref14_Merge.T21 : Bool × List (List Nat × List Nat) := (true, [([], []), ([0], [0]), ([], []), ([], []), ([2, 3], [2, 3]), ([4], [4]), ([], []), ([], []), ([7], [7]), ([6, 8], [6, 8]), ([9], [9]), ([], []), ([5, 10, 11], [5, 10, 11]), ([12], [12]), ([1, 13], [1, 13]), ([0, 1, 2, 3, 4, 5, 6, 7, 8, 9, 10, 11, 12, 13, 14], []), ([15, 14, 14, 0, 1, 2, 3, 4, 5, 6, 7, 8, 9, 10, 11, 12, 13, 14], [14, 15])])
def gangsawref14_Merge.B21 : List Nat := [0, 1, 0, 0, 12, 28, 0, 0, 128, 448, 960, 0, 4092, 8188, 16383, 32767, 65535]
theorem gangsawref14_Merge.tab21 : rtab .any (opsOf Tryz.f27 21) = gangsawref14_Merge.T21 := by kernel_rfl
theorem gangsawref14_Merge.bits21 : waitsOk gangsawref14_Merge.T21.2 gangsawref14_Merge.B21 = true := by kernel_rfl
set_option maxHeartbeats 8000000 in
set_option maxRecDepth 100000 in
theorem gangsawref14_Merge.calls (k : Nat) (a0_0 : ByteArray) (a0_1 : Int) (a0_2 : Int) (A0_3 : Option Addr) (c0_3 : Nat) (l0_3 : List (S48)) (a1_0 : ByteArray) (a1_1 : Int) (a1_2 : Int) (A1_3 : Option Addr) (c1_3 : Nat) (l1_3 : List (S48)) (r1 : ByteArray) (r2 : Int) (r3 : Int) (r4 : List (S48)) (r5 : Int) (w : World) (hr0_3 : Kd.C k48 w A0_3 l0_3.length l0_3) (hc0_3 : l0_3.length ≤ c0_3) (hr1_3 : Kd.C k48 w A1_3 l1_3.length l1_3) (hc1_3 : l1_3.length ≤ c1_3) (h : gangsawref14_Merge.f k a0_0 a0_1 a0_2 l0_3 a1_0 a1_1 a1_2 l1_3 = some (r1, r2, r3, r4, r5)) :
  Calls Tryz.prog 27 #[.agg #[.string a0_0, .int .i64 a0_1, .int .i64 a0_2, .slice A0_3 l0_3.length c0_3], .agg #[.string a1_0, .int .i64 a1_1, .int .i64 a1_2, .slice A1_3 l1_3.length c1_3]] w fun e w' => ∃ v3_ : Value, e = .returned (.tuple #[.agg #[.string r1, .int .i64 r2, .int .i64 r3, v3_], .int .i64 r5]) ∧ Kd.R k48 48 w' w.heap.size (fun _ => True) v3_ r4 ∧ Below w.heap.size w w' := by
 have hu33 := Tryz.underlying33
 have hu30 := Tryz.underlying30
 have hu48 := Tryz.underlying48
 have HR0_3 := aK hr0_3
 have HC0_3 := aK hc0_3
 clear hr0_3 hc0_3
 have HR1_3 := aK hr1_3
 have HC1_3 := aK hc1_3
 clear hr1_3 hc1_3
 have HB := aK (Below.refl w.heap.size w)
 have H : ((gangsawref14_Formed.f k a0_0 a0_1 a0_2 l0_3).bind fun t319 => (if t319 = 0 then ((gangsawref14_Formed.f k a1_0 a1_1 a1_2 l1_3).bind fun t320 => (if t320 = 0 then (if (!(a0_1 == a1_1) || (!(a0_2 == a1_2))) = true then (some ((⟨#[]⟩ : ByteArray), 0, 0, ([] : List (S48)), 10)) else ((gangsawref14_ends.f k a0_0 a0_1 a0_2 l0_3 a1_0 a1_1 a1_2 l1_3).bind fun t322 => (gangsawref14_Merge.l0 k t322 0 a0_0 a0_1 a0_2 l0_3 a1_0 a1_1 a1_2 l1_3 a0_0 a0_1 a0_2 ([] : List (S48))))) else (some ((⟨#[]⟩ : ByteArray), 0, 0, ([] : List (S48)), t320)))) else (some ((⟨#[]⟩ : ByteArray), 0, 0, ([] : List (S48)), t319)))) = some (r1, r2, r3, r4, r5) := h
 clear h
 replace H := Option.bind_eq_some_iff.mp H
 obtain ⟨t319, A30, H⟩ := H
 replace H : (if t319 = 0 then ((gangsawref14_Formed.f k a1_0 a1_1 a1_2 l1_3).bind fun t320 => (if t320 = 0 then (if (!(a0_1 == a1_1) || (!(a0_2 == a1_2))) = true then (some ((⟨#[]⟩ : ByteArray), 0, 0, ([] : List (S48)), 10)) else ((gangsawref14_ends.f k a0_0 a0_1 a0_2 l0_3 a1_0 a1_1 a1_2 l1_3).bind fun t322 => (gangsawref14_Merge.l0 k t322 0 a0_0 a0_1 a0_2 l0_3 a1_0 a1_1 a1_2 l1_3 a0_0 a0_1 a0_2 ([] : List (S48))))) else (some ((⟨#[]⟩ : ByteArray), 0, 0, ([] : List (S48)), t320)))) else (some ((⟨#[]⟩ : ByteArray), 0, 0, ([] : List (S48)), t319))) = some (r1, r2, r3, r4, r5) := H
 have A3 := aK A30
 clear A30
 by_cases c4 : t319 = 0
 rotate_left
 ·rw [if_neg c4] at H
  have c4b0 : (t319 == 0) = false := beq_eq_false_iff_ne.mpr c4
  have c4b1 : (t319 != 0) = true := bne_iff_ne.mpr c4
  simp only [Option.some.injEq, Prod.mk.injEq] at H
  obtain ⟨rfl, rfl, rfl, rfl, rfl⟩ := H
  go_enter Tryz.func27, Tryz.ntmps27
  go_wp2_with (first | ((with_reducible refine gate_dst (N := 2) rfl ?_); refine box_event ?hg (N := 2) ?hd (cs := #[.string a0_0, .int .i64 a0_1, .int .i64 a0_2, .slice A0_3 l0_3.length c0_3]) (t := 33) ?hr ?_; (case hd => rfl); (case hg => rfl); (case hr => first | (go_simp; done) | (go_simp; rfl)); intro gb316 hg w111 hbox hb; have ⟨n0_, n2_⟩ := zV (w := w) hb hg (by repeat (first | (with_reducible first | exact HB.out | apply yA | apply yN | apply yD) | exact HB.out)); have n1_ := aK (hbox); have n3_ := n2_; clear HB; have HB := n0_; have BK316 := n1_; have GW316 := n2_; have GE316 := n3_; clear n0_ n1_ n2_ n3_; clear hb hbox hg) | ((with_reducible refine gate_dst (N := 3) rfl ?_); refine box_event ?hg (N := 3) ?hd (cs := #[.string a1_0, .int .i64 a1_1, .int .i64 a1_2, .slice A1_3 l1_3.length c1_3]) (t := 33) ?hr ?_; (case hd => rfl); (case hg => rfl); (case hr => first | (go_simp; done) | (go_simp; rfl)); intro gb317 hg w112 hbox hb; have n0_ := aK (zB (g := gb316) (o := .cells #[.string a0_0, .int .i64 a0_1, .int .i64 a0_2, .slice A0_3 l0_3.length c0_3] 33 (0, 0)) (BK316.out) hb); have ⟨n1_, n3_⟩ := zV (w := w) hb hg (by repeat (first | (with_reducible first | exact HB.out | apply yA | apply yN | apply yD | refine yS ?_ GE316.out) | exact HB.out)); have n2_ := aK (hbox); have n4_ := n3_; have n5_ := aK ((by rw [hg]; exact Nat.ne_of_lt (blk_lt (g := gb316) (o := .cells #[.string a0_0, .int .i64 a0_1, .int .i64 a0_2, .slice A0_3 l0_3.length c0_3] 33 (0, 0)) (BK316.out)) : gb316 ≠ gb317)); have n6_ := aK ((by rw [hg]; exact Nat.ne_of_gt (blk_lt (g := gb316) (o := .cells #[.string a0_0, .int .i64 a0_1, .int .i64 a0_2, .slice A0_3 l0_3.length c0_3] 33 (0, 0)) (BK316.out)) : gb317 ≠ gb316)); clear BK316; clear HB; have BK316 := n0_; have HB := n1_; have BK317 := n2_; have GW317 := n3_; have GE317 := n4_; have NB316_317 := n5_; have NB317_316 := n6_; clear n0_ n1_ n2_ n3_ n4_ n5_ n6_; clear hb hbox hg) | ((with_reducible refine gate_dst (N := 4) rfl ?_); refine box_event ?hg (N := 4) ?hd (cs := #[.string (⟨#[]⟩ : ByteArray), .int .i64 0, .int .i64 0, .slice none 0 0]) (t := 33) ?hr ?_; (case hd => rfl); (case hg => rfl); (case hr => first | (go_simp; done) | (go_simp; rfl)); intro gb318 hg w113 hbox hb; have n0_ := aK (zB (g := gb316) (o := .cells #[.string a0_0, .int .i64 a0_1, .int .i64 a0_2, .slice A0_3 l0_3.length c0_3] 33 (0, 0)) (BK316.out) hb); have n1_ := aK (zB (g := gb317) (o := .cells #[.string a1_0, .int .i64 a1_1, .int .i64 a1_2, .slice A1_3 l1_3.length c1_3] 33 (0, 0)) (BK317.out) hb); have ⟨n2_, n4_⟩ := zV (w := w) hb hg (by repeat (first | (with_reducible first | exact HB.out | apply yA | apply yN | apply yD | refine yS ?_ GE316.out | refine yS ?_ GE317.out) | exact HB.out)); have n3_ := aK (hbox); have n5_ := n4_; have n6_ := aK ((by rw [hg]; exact Nat.ne_of_lt (blk_lt (g := gb316) (o := .cells #[.string a0_0, .int .i64 a0_1, .int .i64 a0_2, .slice A0_3 l0_3.length c0_3] 33 (0, 0)) (BK316.out)) : gb316 ≠ gb318)); have n7_ := aK ((by rw [hg]; exact Nat.ne_of_gt (blk_lt (g := gb316) (o := .cells #[.string a0_0, .int .i64 a0_1, .int .i64 a0_2, .slice A0_3 l0_3.length c0_3] 33 (0, 0)) (BK316.out)) : gb318 ≠ gb316)); have n8_ := aK ((by rw [hg]; exact Nat.ne_of_lt (blk_lt (g := gb317) (o := .cells #[.string a1_0, .int .i64 a1_1, .int .i64 a1_2, .slice A1_3 l1_3.length c1_3] 33 (0, 0)) (BK317.out)) : gb317 ≠ gb318)); have n9_ := aK ((by rw [hg]; exact Nat.ne_of_gt (blk_lt (g := gb317) (o := .cells #[.string a1_0, .int .i64 a1_1, .int .i64 a1_2, .slice A1_3 l1_3.length c1_3] 33 (0, 0)) (BK317.out)) : gb318 ≠ gb317)); clear BK316; clear BK317; clear HB; have BK316 := n0_; have BK317 := n1_; have HB := n2_; have BK318 := n3_; have GW318 := n4_; have GE318 := n5_; have NB316_318 := n6_; have NB318_316 := n7_; have NB317_318 := n8_; have NB318_317 := n9_; clear n0_ n1_ n2_ n3_ n4_ n5_ n6_ n7_ n8_ n9_; clear hb hbox hg; have hnb114 := NB316_317.out; have hnc114 := NB317_316.out; have hnb115 := NB316_318.out; have hnc115 := NB318_316.out; have hcz116_0 := zI BK316 0 rfl; have hcz116_1 := zI BK316 1 rfl; have hcz116_2 := zI BK316 2 rfl; have hcz116_3 := zI BK316 3 rfl; have hfz116_0 := zF BK316.out 0; have hfz116_1 := zF BK316.out 1; have hfz116_2 := zF BK316.out 2; have hfz116_3 := zF BK316.out 3) | ((with_reducible refine gate_callee (f := 48) rfl ?_); refine goesL_ (some 14) rfl rfl Tryz.func48 (by kernel_rfl) rfl #[.agg #[.string a0_0, .int .i64 a0_1, .int .i64 a0_2, .slice A0_3 l0_3.length c0_3]] rfl (by (try simp only [List.map_toArray, List.map_cons, List.map_nil]); first | done | rfl | (simp only [List.length_drop, List.length_take]; rfl)) ?_; (with_reducible refine (gangsawref14_Formed.calls k a0_0 a0_1 a0_2 _ _ l0_3 t319 _ ?side1 ?side2 A3.out).mono ?_); (case side1 => repeat (first | exact (Kd.C_below HR0_3.out HB.out) | (with_reducible refine Kd.C_alloc ?_ _) | (with_reducible refine Kd.C_drewN ?_ _) | (with_reducible refine Kd.C_drew ?_))); (case side2 => exact HC0_3.out); rintro e w117 ⟨rfl, hb⟩; refine ⟨_, rfl, ?_⟩; have n0_ := aK (zB (g := gb316) (o := .cells #[.string a0_0, .int .i64 a0_1, .int .i64 a0_2, .slice A0_3 l0_3.length c0_3] 33 (0, 0)) (BK316.out) hb); have n1_ := aK (zB (g := gb317) (o := .cells #[.string a1_0, .int .i64 a1_1, .int .i64 a1_2, .slice A1_3 l1_3.length c1_3] 33 (0, 0)) (BK317.out) hb); have n2_ := aK (zB (g := gb318) (o := .cells #[.string (⟨#[]⟩ : ByteArray), .int .i64 0, .int .i64 0, .slice none 0 0] 33 (0, 0)) (BK318.out) hb); have n3_ := aK (yT (by repeat (first | (with_reducible first | exact HB.out | apply yA | apply yN | apply yD | refine yS ?_ GE316.out | refine yS ?_ GE317.out | refine yS ?_ GE318.out) | exact HB.out)) hb); clear BK316; clear BK317; clear BK318; clear HB; have BK316 := n0_; have BK317 := n1_; have BK318 := n2_; have HB := n3_; clear n0_ n1_ n2_ n3_; (try clear hb); have hnb118 := NB318_317.out; have hnc118 := NB317_318.out; have hcz119_0 := zI BK318 0 rfl; have hcz119_1 := zI BK318 1 rfl; have hcz119_2 := zI BK318 2 rfl; have hcz119_3 := zI BK318 3 rfl; have hfz119_0 := zF BK318.out 0; have hfz119_1 := zF BK318.out 1; have hfz119_2 := zF BK318.out 2; have hfz119_3 := zF BK318.out 3))
  refine bodyPost_ret (results_ct rfl _ _ gb318 33 #[.string (⟨#[]⟩ : ByteArray), .int .i64 0, .int .i64 0, .slice none 0 0] (0, 0) _ rfl (by refine blk_put (cs := #[.string (⟨#[]⟩ : ByteArray), .int .i64 0, .int .i64 0, .slice none 0 0]) ?_ 3 _ rfl; refine blk_put (cs := #[.string (⟨#[]⟩ : ByteArray), .int .i64 0, .int .i64 0, .slice none 0 0]) ?_ 2 _ rfl; refine blk_put (cs := #[.string (⟨#[]⟩ : ByteArray), .int .i64 0, .int .i64 0, .slice none 0 0]) ?_ 1 _ rfl; refine blk_put (cs := #[.string (⟨#[]⟩ : ByteArray), .int .i64 0, .int .i64 0, .slice none 0 0]) ?_ 0 _ rfl; exact BK318.out) Tryz.underlying33 rfl (by kernel_rfl)) rfl ?_
  exact ⟨_, rfl, by first | exact Kd.R_nil _ _ _ _ _ | exact Kd.N_nil _ _ _ _ _ | exact Kd.V_nil _ _ _ _ _ | exact Kd.Q_nil _ _ _ _ _ | exact Kd.S_nil _ _ _ _ _, by repeat (first | (with_reducible first | exact HB.out | apply yA | apply yN | apply yD | refine yS ?_ GE316.out | refine yS ?_ GE317.out | refine yS ?_ GE318.out) | exact HB.out)⟩
 rw [if_pos c4] at H
 have c4b0 : (t319 == 0) = true := beq_iff_eq.mpr c4
 have c4b1 : (t319 != 0) = false := bne_eq_false_iff_eq.mpr c4
 clear c4
 replace H := Option.bind_eq_some_iff.mp H
 obtain ⟨t320, A50, H⟩ := H
 replace H : (if t320 = 0 then (if (!(a0_1 == a1_1) || (!(a0_2 == a1_2))) = true then (some ((⟨#[]⟩ : ByteArray), 0, 0, ([] : List (S48)), 10)) else ((gangsawref14_ends.f k a0_0 a0_1 a0_2 l0_3 a1_0 a1_1 a1_2 l1_3).bind fun t322 => (gangsawref14_Merge.l0 k t322 0 a0_0 a0_1 a0_2 l0_3 a1_0 a1_1 a1_2 l1_3 a0_0 a0_1 a0_2 ([] : List (S48))))) else (some ((⟨#[]⟩ : ByteArray), 0, 0, ([] : List (S48)), t320))) = some (r1, r2, r3, r4, r5) := H
 have A5 := aK A50
 clear A50
 by_cases c6 : t320 = 0
 rotate_left
 ·rw [if_neg c6] at H
  have c6b0 : (t320 == 0) = false := beq_eq_false_iff_ne.mpr c6
  have c6b1 : (t320 != 0) = true := bne_iff_ne.mpr c6
  simp only [Option.some.injEq, Prod.mk.injEq] at H
  obtain ⟨rfl, rfl, rfl, rfl, rfl⟩ := H
  go_enter Tryz.func27, Tryz.ntmps27
  go_wp2_with (first | ((with_reducible refine gate_dst (N := 2) rfl ?_); refine box_event ?hg (N := 2) ?hd (cs := #[.string a0_0, .int .i64 a0_1, .int .i64 a0_2, .slice A0_3 l0_3.length c0_3]) (t := 33) ?hr ?_; (case hd => rfl); (case hg => rfl); (case hr => first | (go_simp; done) | (go_simp; rfl)); intro gb316 hg w100 hbox hb; have ⟨n0_, n2_⟩ := zV (w := w) hb hg (by repeat (first | (with_reducible first | exact HB.out | apply yA | apply yN | apply yD) | exact HB.out)); have n1_ := aK (hbox); have n3_ := n2_; clear HB; have HB := n0_; have BK316 := n1_; have GW316 := n2_; have GE316 := n3_; clear n0_ n1_ n2_ n3_; clear hb hbox hg) | ((with_reducible refine gate_dst (N := 3) rfl ?_); refine box_event ?hg (N := 3) ?hd (cs := #[.string a1_0, .int .i64 a1_1, .int .i64 a1_2, .slice A1_3 l1_3.length c1_3]) (t := 33) ?hr ?_; (case hd => rfl); (case hg => rfl); (case hr => first | (go_simp; done) | (go_simp; rfl)); intro gb317 hg w101 hbox hb; have n0_ := aK (zB (g := gb316) (o := .cells #[.string a0_0, .int .i64 a0_1, .int .i64 a0_2, .slice A0_3 l0_3.length c0_3] 33 (0, 0)) (BK316.out) hb); have ⟨n1_, n3_⟩ := zV (w := w) hb hg (by repeat (first | (with_reducible first | exact HB.out | apply yA | apply yN | apply yD | refine yS ?_ GE316.out) | exact HB.out)); have n2_ := aK (hbox); have n4_ := n3_; have n5_ := aK ((by rw [hg]; exact Nat.ne_of_lt (blk_lt (g := gb316) (o := .cells #[.string a0_0, .int .i64 a0_1, .int .i64 a0_2, .slice A0_3 l0_3.length c0_3] 33 (0, 0)) (BK316.out)) : gb316 ≠ gb317)); have n6_ := aK ((by rw [hg]; exact Nat.ne_of_gt (blk_lt (g := gb316) (o := .cells #[.string a0_0, .int .i64 a0_1, .int .i64 a0_2, .slice A0_3 l0_3.length c0_3] 33 (0, 0)) (BK316.out)) : gb317 ≠ gb316)); clear BK316; clear HB; have BK316 := n0_; have HB := n1_; have BK317 := n2_; have GW317 := n3_; have GE317 := n4_; have NB316_317 := n5_; have NB317_316 := n6_; clear n0_ n1_ n2_ n3_ n4_ n5_ n6_; clear hb hbox hg) | ((with_reducible refine gate_dst (N := 4) rfl ?_); refine box_event ?hg (N := 4) ?hd (cs := #[.string (⟨#[]⟩ : ByteArray), .int .i64 0, .int .i64 0, .slice none 0 0]) (t := 33) ?hr ?_; (case hd => rfl); (case hg => rfl); (case hr => first | (go_simp; done) | (go_simp; rfl)); intro gb318 hg w102 hbox hb; have n0_ := aK (zB (g := gb316) (o := .cells #[.string a0_0, .int .i64 a0_1, .int .i64 a0_2, .slice A0_3 l0_3.length c0_3] 33 (0, 0)) (BK316.out) hb); have n1_ := aK (zB (g := gb317) (o := .cells #[.string a1_0, .int .i64 a1_1, .int .i64 a1_2, .slice A1_3 l1_3.length c1_3] 33 (0, 0)) (BK317.out) hb); have ⟨n2_, n4_⟩ := zV (w := w) hb hg (by repeat (first | (with_reducible first | exact HB.out | apply yA | apply yN | apply yD | refine yS ?_ GE316.out | refine yS ?_ GE317.out) | exact HB.out)); have n3_ := aK (hbox); have n5_ := n4_; have n6_ := aK ((by rw [hg]; exact Nat.ne_of_lt (blk_lt (g := gb316) (o := .cells #[.string a0_0, .int .i64 a0_1, .int .i64 a0_2, .slice A0_3 l0_3.length c0_3] 33 (0, 0)) (BK316.out)) : gb316 ≠ gb318)); have n7_ := aK ((by rw [hg]; exact Nat.ne_of_gt (blk_lt (g := gb316) (o := .cells #[.string a0_0, .int .i64 a0_1, .int .i64 a0_2, .slice A0_3 l0_3.length c0_3] 33 (0, 0)) (BK316.out)) : gb318 ≠ gb316)); have n8_ := aK ((by rw [hg]; exact Nat.ne_of_lt (blk_lt (g := gb317) (o := .cells #[.string a1_0, .int .i64 a1_1, .int .i64 a1_2, .slice A1_3 l1_3.length c1_3] 33 (0, 0)) (BK317.out)) : gb317 ≠ gb318)); have n9_ := aK ((by rw [hg]; exact Nat.ne_of_gt (blk_lt (g := gb317) (o := .cells #[.string a1_0, .int .i64 a1_1, .int .i64 a1_2, .slice A1_3 l1_3.length c1_3] 33 (0, 0)) (BK317.out)) : gb318 ≠ gb317)); clear BK316; clear BK317; clear HB; have BK316 := n0_; have BK317 := n1_; have HB := n2_; have BK318 := n3_; have GW318 := n4_; have GE318 := n5_; have NB316_318 := n6_; have NB318_316 := n7_; have NB317_318 := n8_; have NB318_317 := n9_; clear n0_ n1_ n2_ n3_ n4_ n5_ n6_ n7_ n8_ n9_; clear hb hbox hg; have hnb103 := NB316_317.out; have hnc103 := NB317_316.out; have hnb104 := NB316_318.out; have hnc104 := NB318_316.out; have hcz105_0 := zI BK316 0 rfl; have hcz105_1 := zI BK316 1 rfl; have hcz105_2 := zI BK316 2 rfl; have hcz105_3 := zI BK316 3 rfl; have hfz105_0 := zF BK316.out 0; have hfz105_1 := zF BK316.out 1; have hfz105_2 := zF BK316.out 2; have hfz105_3 := zF BK316.out 3) | ((with_reducible refine gate_callee (f := 48) rfl ?_); refine goesL_ (some 14) rfl rfl Tryz.func48 (by kernel_rfl) rfl #[.agg #[.string a0_0, .int .i64 a0_1, .int .i64 a0_2, .slice A0_3 l0_3.length c0_3]] rfl (by (try simp only [List.map_toArray, List.map_cons, List.map_nil]); first | done | rfl | (simp only [List.length_drop, List.length_take]; rfl)) ?_; (with_reducible refine (gangsawref14_Formed.calls k a0_0 a0_1 a0_2 _ _ l0_3 t319 _ ?side1 ?side2 A3.out).mono ?_); (case side1 => repeat (first | exact (Kd.C_below HR0_3.out HB.out) | (with_reducible refine Kd.C_alloc ?_ _) | (with_reducible refine Kd.C_drewN ?_ _) | (with_reducible refine Kd.C_drew ?_))); (case side2 => exact HC0_3.out); rintro e w106 ⟨rfl, hb⟩; refine ⟨_, rfl, ?_⟩; have n0_ := aK (zB (g := gb316) (o := .cells #[.string a0_0, .int .i64 a0_1, .int .i64 a0_2, .slice A0_3 l0_3.length c0_3] 33 (0, 0)) (BK316.out) hb); have n1_ := aK (zB (g := gb317) (o := .cells #[.string a1_0, .int .i64 a1_1, .int .i64 a1_2, .slice A1_3 l1_3.length c1_3] 33 (0, 0)) (BK317.out) hb); have n2_ := aK (zB (g := gb318) (o := .cells #[.string (⟨#[]⟩ : ByteArray), .int .i64 0, .int .i64 0, .slice none 0 0] 33 (0, 0)) (BK318.out) hb); have n3_ := aK (yT (by repeat (first | (with_reducible first | exact HB.out | apply yA | apply yN | apply yD | refine yS ?_ GE316.out | refine yS ?_ GE317.out | refine yS ?_ GE318.out) | exact HB.out)) hb); clear BK316; clear BK317; clear BK318; clear HB; have BK316 := n0_; have BK317 := n1_; have BK318 := n2_; have HB := n3_; clear n0_ n1_ n2_ n3_; (try clear hb); have hnb107 := NB317_318.out; have hnc107 := NB318_317.out; have hcz108_0 := zI BK317 0 rfl; have hcz108_1 := zI BK317 1 rfl; have hcz108_2 := zI BK317 2 rfl; have hcz108_3 := zI BK317 3 rfl; have hfz108_0 := zF BK317.out 0; have hfz108_1 := zF BK317.out 1; have hfz108_2 := zF BK317.out 2; have hfz108_3 := zF BK317.out 3) | ((with_reducible refine gate_callee (f := 48) rfl ?_); refine goesL_ (some 20) rfl rfl Tryz.func48 (by kernel_rfl) rfl #[.agg #[.string a1_0, .int .i64 a1_1, .int .i64 a1_2, .slice A1_3 l1_3.length c1_3]] rfl (by (try simp only [List.map_toArray, List.map_cons, List.map_nil]); first | done | rfl | (simp only [List.length_drop, List.length_take]; rfl)) ?_; (with_reducible refine (gangsawref14_Formed.calls k a1_0 a1_1 a1_2 _ _ l1_3 t320 _ ?side1 ?side2 A5.out).mono ?_); (case side1 => repeat (first | exact (Kd.C_below HR1_3.out HB.out) | (with_reducible refine Kd.C_alloc ?_ _) | (with_reducible refine Kd.C_drewN ?_ _) | (with_reducible refine Kd.C_drew ?_))); (case side2 => exact HC1_3.out); rintro e w109 ⟨rfl, hb⟩; refine ⟨_, rfl, ?_⟩; have n0_ := aK (zB (g := gb316) (o := .cells #[.string a0_0, .int .i64 a0_1, .int .i64 a0_2, .slice A0_3 l0_3.length c0_3] 33 (0, 0)) (BK316.out) hb); have n1_ := aK (zB (g := gb317) (o := .cells #[.string a1_0, .int .i64 a1_1, .int .i64 a1_2, .slice A1_3 l1_3.length c1_3] 33 (0, 0)) (BK317.out) hb); have n2_ := aK (zB (g := gb318) (o := .cells #[.string (⟨#[]⟩ : ByteArray), .int .i64 0, .int .i64 0, .slice none 0 0] 33 (0, 0)) (BK318.out) hb); have n3_ := aK (yT (by repeat (first | (with_reducible first | exact HB.out | apply yA | apply yN | apply yD | refine yS ?_ GE316.out | refine yS ?_ GE317.out | refine yS ?_ GE318.out) | exact HB.out)) hb); clear BK316; clear BK317; clear BK318; clear HB; have BK316 := n0_; have BK317 := n1_; have BK318 := n2_; have HB := n3_; clear n0_ n1_ n2_ n3_; (try clear hb); have hcz110_0 := zI BK318 0 rfl; have hcz110_1 := zI BK318 1 rfl; have hcz110_2 := zI BK318 2 rfl; have hcz110_3 := zI BK318 3 rfl; have hfz110_0 := zF BK318.out 0; have hfz110_1 := zF BK318.out 1; have hfz110_2 := zF BK318.out 2; have hfz110_3 := zF BK318.out 3))
  refine bodyPost_ret (results_ct rfl _ _ gb318 33 #[.string (⟨#[]⟩ : ByteArray), .int .i64 0, .int .i64 0, .slice none 0 0] (0, 0) _ rfl (by refine blk_put (cs := #[.string (⟨#[]⟩ : ByteArray), .int .i64 0, .int .i64 0, .slice none 0 0]) ?_ 3 _ rfl; refine blk_put (cs := #[.string (⟨#[]⟩ : ByteArray), .int .i64 0, .int .i64 0, .slice none 0 0]) ?_ 2 _ rfl; refine blk_put (cs := #[.string (⟨#[]⟩ : ByteArray), .int .i64 0, .int .i64 0, .slice none 0 0]) ?_ 1 _ rfl; refine blk_put (cs := #[.string (⟨#[]⟩ : ByteArray), .int .i64 0, .int .i64 0, .slice none 0 0]) ?_ 0 _ rfl; exact BK318.out) Tryz.underlying33 rfl (by kernel_rfl)) rfl ?_
  exact ⟨_, rfl, by first | exact Kd.R_nil _ _ _ _ _ | exact Kd.N_nil _ _ _ _ _ | exact Kd.V_nil _ _ _ _ _ | exact Kd.Q_nil _ _ _ _ _ | exact Kd.S_nil _ _ _ _ _, by repeat (first | (with_reducible first | exact HB.out | apply yA | apply yN | apply yD | refine yS ?_ GE316.out | refine yS ?_ GE317.out | refine yS ?_ GE318.out) | exact HB.out)⟩
 rw [if_pos c6] at H
 have c6b0 : (t320 == 0) = true := beq_iff_eq.mpr c6
 have c6b1 : (t320 != 0) = false := bne_eq_false_iff_eq.mpr c6
 clear c6
 by_cases c7 : (!(a0_1 == a1_1) || (!(a0_2 == a1_2))) = true
 ·rw [if_pos c7] at H
  have c7b0 : (!(a0_1 == a1_1) || (!(a0_2 == a1_2))) = true := c7
  clear c7
  simp only [Option.some.injEq, Prod.mk.injEq] at H
  obtain ⟨rfl, rfl, rfl, rfl, rfl⟩ := H
  go_enter Tryz.func27, Tryz.ntmps27
  go_wp2_with (first | ((with_reducible refine gate_dst (N := 2) rfl ?_); refine box_event ?hg (N := 2) ?hd (cs := #[.string a0_0, .int .i64 a0_1, .int .i64 a0_2, .slice A0_3 l0_3.length c0_3]) (t := 33) ?hr ?_; (case hd => rfl); (case hg => rfl); (case hr => first | (go_simp; done) | (go_simp; rfl)); intro gb316 hg w8 hbox hb; have ⟨n0_, n2_⟩ := zV (w := w) hb hg (by repeat (first | (with_reducible first | exact HB.out | apply yA | apply yN | apply yD) | exact HB.out)); have n1_ := aK (hbox); have n3_ := n2_; clear HB; have HB := n0_; have BK316 := n1_; have GW316 := n2_; have GE316 := n3_; clear n0_ n1_ n2_ n3_; clear hb hbox hg) | ((with_reducible refine gate_dst (N := 3) rfl ?_); refine box_event ?hg (N := 3) ?hd (cs := #[.string a1_0, .int .i64 a1_1, .int .i64 a1_2, .slice A1_3 l1_3.length c1_3]) (t := 33) ?hr ?_; (case hd => rfl); (case hg => rfl); (case hr => first | (go_simp; done) | (go_simp; rfl)); intro gb317 hg w9 hbox hb; have n0_ := aK (zB (g := gb316) (o := .cells #[.string a0_0, .int .i64 a0_1, .int .i64 a0_2, .slice A0_3 l0_3.length c0_3] 33 (0, 0)) (BK316.out) hb); have ⟨n1_, n3_⟩ := zV (w := w) hb hg (by repeat (first | (with_reducible first | exact HB.out | apply yA | apply yN | apply yD | refine yS ?_ GE316.out) | exact HB.out)); have n2_ := aK (hbox); have n4_ := n3_; have n5_ := aK ((by rw [hg]; exact Nat.ne_of_lt (blk_lt (g := gb316) (o := .cells #[.string a0_0, .int .i64 a0_1, .int .i64 a0_2, .slice A0_3 l0_3.length c0_3] 33 (0, 0)) (BK316.out)) : gb316 ≠ gb317)); have n6_ := aK ((by rw [hg]; exact Nat.ne_of_gt (blk_lt (g := gb316) (o := .cells #[.string a0_0, .int .i64 a0_1, .int .i64 a0_2, .slice A0_3 l0_3.length c0_3] 33 (0, 0)) (BK316.out)) : gb317 ≠ gb316)); clear BK316; clear HB; have BK316 := n0_; have HB := n1_; have BK317 := n2_; have GW317 := n3_; have GE317 := n4_; have NB316_317 := n5_; have NB317_316 := n6_; clear n0_ n1_ n2_ n3_ n4_ n5_ n6_; clear hb hbox hg) | ((with_reducible refine gate_dst (N := 4) rfl ?_); refine box_event ?hg (N := 4) ?hd (cs := #[.string (⟨#[]⟩ : ByteArray), .int .i64 0, .int .i64 0, .slice none 0 0]) (t := 33) ?hr ?_; (case hd => rfl); (case hg => rfl); (case hr => first | (go_simp; done) | (go_simp; rfl)); intro gb318 hg w10 hbox hb; have n0_ := aK (zB (g := gb316) (o := .cells #[.string a0_0, .int .i64 a0_1, .int .i64 a0_2, .slice A0_3 l0_3.length c0_3] 33 (0, 0)) (BK316.out) hb); have n1_ := aK (zB (g := gb317) (o := .cells #[.string a1_0, .int .i64 a1_1, .int .i64 a1_2, .slice A1_3 l1_3.length c1_3] 33 (0, 0)) (BK317.out) hb); have ⟨n2_, n4_⟩ := zV (w := w) hb hg (by repeat (first | (with_reducible first | exact HB.out | apply yA | apply yN | apply yD | refine yS ?_ GE316.out | refine yS ?_ GE317.out) | exact HB.out)); have n3_ := aK (hbox); have n5_ := n4_; have n6_ := aK ((by rw [hg]; exact Nat.ne_of_lt (blk_lt (g := gb316) (o := .cells #[.string a0_0, .int .i64 a0_1, .int .i64 a0_2, .slice A0_3 l0_3.length c0_3] 33 (0, 0)) (BK316.out)) : gb316 ≠ gb318)); have n7_ := aK ((by rw [hg]; exact Nat.ne_of_gt (blk_lt (g := gb316) (o := .cells #[.string a0_0, .int .i64 a0_1, .int .i64 a0_2, .slice A0_3 l0_3.length c0_3] 33 (0, 0)) (BK316.out)) : gb318 ≠ gb316)); have n8_ := aK ((by rw [hg]; exact Nat.ne_of_lt (blk_lt (g := gb317) (o := .cells #[.string a1_0, .int .i64 a1_1, .int .i64 a1_2, .slice A1_3 l1_3.length c1_3] 33 (0, 0)) (BK317.out)) : gb317 ≠ gb318)); have n9_ := aK ((by rw [hg]; exact Nat.ne_of_gt (blk_lt (g := gb317) (o := .cells #[.string a1_0, .int .i64 a1_1, .int .i64 a1_2, .slice A1_3 l1_3.length c1_3] 33 (0, 0)) (BK317.out)) : gb318 ≠ gb317)); clear BK316; clear BK317; clear HB; have BK316 := n0_; have BK317 := n1_; have HB := n2_; have BK318 := n3_; have GW318 := n4_; have GE318 := n5_; have NB316_318 := n6_; have NB318_316 := n7_; have NB317_318 := n8_; have NB318_317 := n9_; clear n0_ n1_ n2_ n3_ n4_ n5_ n6_ n7_ n8_ n9_; clear hb hbox hg; have hnb11 := NB316_317.out; have hnc11 := NB317_316.out; have hnb12 := NB316_318.out; have hnc12 := NB318_316.out; have hcz13_0 := zI BK316 0 rfl; have hcz13_1 := zI BK316 1 rfl; have hcz13_2 := zI BK316 2 rfl; have hcz13_3 := zI BK316 3 rfl; have hfz13_0 := zF BK316.out 0; have hfz13_1 := zF BK316.out 1; have hfz13_2 := zF BK316.out 2; have hfz13_3 := zF BK316.out 3) | ((with_reducible refine gate_callee (f := 48) rfl ?_); refine goesL_ (some 14) rfl rfl Tryz.func48 (by kernel_rfl) rfl #[.agg #[.string a0_0, .int .i64 a0_1, .int .i64 a0_2, .slice A0_3 l0_3.length c0_3]] rfl (by (try simp only [List.map_toArray, List.map_cons, List.map_nil]); first | done | rfl | (simp only [List.length_drop, List.length_take]; rfl)) ?_; (with_reducible refine (gangsawref14_Formed.calls k a0_0 a0_1 a0_2 _ _ l0_3 t319 _ ?side1 ?side2 A3.out).mono ?_); (case side1 => repeat (first | exact (Kd.C_below HR0_3.out HB.out) | (with_reducible refine Kd.C_alloc ?_ _) | (with_reducible refine Kd.C_drewN ?_ _) | (with_reducible refine Kd.C_drew ?_))); (case side2 => exact HC0_3.out); rintro e w14 ⟨rfl, hb⟩; refine ⟨_, rfl, ?_⟩; have n0_ := aK (zB (g := gb316) (o := .cells #[.string a0_0, .int .i64 a0_1, .int .i64 a0_2, .slice A0_3 l0_3.length c0_3] 33 (0, 0)) (BK316.out) hb); have n1_ := aK (zB (g := gb317) (o := .cells #[.string a1_0, .int .i64 a1_1, .int .i64 a1_2, .slice A1_3 l1_3.length c1_3] 33 (0, 0)) (BK317.out) hb); have n2_ := aK (zB (g := gb318) (o := .cells #[.string (⟨#[]⟩ : ByteArray), .int .i64 0, .int .i64 0, .slice none 0 0] 33 (0, 0)) (BK318.out) hb); have n3_ := aK (yT (by repeat (first | (with_reducible first | exact HB.out | apply yA | apply yN | apply yD | refine yS ?_ GE316.out | refine yS ?_ GE317.out | refine yS ?_ GE318.out) | exact HB.out)) hb); clear BK316; clear BK317; clear BK318; clear HB; have BK316 := n0_; have BK317 := n1_; have BK318 := n2_; have HB := n3_; clear n0_ n1_ n2_ n3_; (try clear hb); have hnb15 := NB317_318.out; have hnc15 := NB318_317.out; have hcz16_0 := zI BK317 0 rfl; have hcz16_1 := zI BK317 1 rfl; have hcz16_2 := zI BK317 2 rfl; have hcz16_3 := zI BK317 3 rfl; have hfz16_0 := zF BK317.out 0; have hfz16_1 := zF BK317.out 1; have hfz16_2 := zF BK317.out 2; have hfz16_3 := zF BK317.out 3) | ((with_reducible refine gate_callee (f := 48) rfl ?_); refine goesL_ (some 20) rfl rfl Tryz.func48 (by kernel_rfl) rfl #[.agg #[.string a1_0, .int .i64 a1_1, .int .i64 a1_2, .slice A1_3 l1_3.length c1_3]] rfl (by (try simp only [List.map_toArray, List.map_cons, List.map_nil]); first | done | rfl | (simp only [List.length_drop, List.length_take]; rfl)) ?_; (with_reducible refine (gangsawref14_Formed.calls k a1_0 a1_1 a1_2 _ _ l1_3 t320 _ ?side1 ?side2 A5.out).mono ?_); (case side1 => repeat (first | exact (Kd.C_below HR1_3.out HB.out) | (with_reducible refine Kd.C_alloc ?_ _) | (with_reducible refine Kd.C_drewN ?_ _) | (with_reducible refine Kd.C_drew ?_))); (case side2 => exact HC1_3.out); rintro e w17 ⟨rfl, hb⟩; refine ⟨_, rfl, ?_⟩; have n0_ := aK (zB (g := gb316) (o := .cells #[.string a0_0, .int .i64 a0_1, .int .i64 a0_2, .slice A0_3 l0_3.length c0_3] 33 (0, 0)) (BK316.out) hb); have n1_ := aK (zB (g := gb317) (o := .cells #[.string a1_0, .int .i64 a1_1, .int .i64 a1_2, .slice A1_3 l1_3.length c1_3] 33 (0, 0)) (BK317.out) hb); have n2_ := aK (zB (g := gb318) (o := .cells #[.string (⟨#[]⟩ : ByteArray), .int .i64 0, .int .i64 0, .slice none 0 0] 33 (0, 0)) (BK318.out) hb); have n3_ := aK (yT (by repeat (first | (with_reducible first | exact HB.out | apply yA | apply yN | apply yD | refine yS ?_ GE316.out | refine yS ?_ GE317.out | refine yS ?_ GE318.out) | exact HB.out)) hb); clear BK316; clear BK317; clear BK318; clear HB; have BK316 := n0_; have BK317 := n1_; have BK318 := n2_; have HB := n3_; clear n0_ n1_ n2_ n3_; (try clear hb); have hcz18_0 := zI BK316 0 rfl; have hcz18_1 := zI BK316 1 rfl; have hcz18_2 := zI BK316 2 rfl; have hcz18_3 := zI BK316 3 rfl; have hfz18_0 := zF BK316.out 0; have hfz18_1 := zF BK316.out 1; have hfz18_2 := zF BK316.out 2; have hfz18_3 := zF BK316.out 3; have hcz19_0 := zI BK317 0 rfl; have hcz19_1 := zI BK317 1 rfl; have hcz19_2 := zI BK317 2 rfl; have hcz19_3 := zI BK317 3 rfl; have hfz19_0 := zF BK317.out 0; have hfz19_1 := zF BK317.out 1; have hfz19_2 := zF BK317.out 2; have hfz19_3 := zF BK317.out 3; have hcz20_0 := zI BK318 0 rfl; have hcz20_1 := zI BK318 1 rfl; have hcz20_2 := zI BK318 2 rfl; have hcz20_3 := zI BK318 3 rfl; have hfz20_0 := zF BK318.out 0; have hfz20_1 := zF BK318.out 1; have hfz20_2 := zF BK318.out 2; have hfz20_3 := zF BK318.out 3))
  refine bodyPost_ret (results_ct rfl _ _ gb318 33 #[.string (⟨#[]⟩ : ByteArray), .int .i64 0, .int .i64 0, .slice none 0 0] (0, 0) _ rfl (by refine blk_put (cs := #[.string (⟨#[]⟩ : ByteArray), .int .i64 0, .int .i64 0, .slice none 0 0]) ?_ 3 _ rfl; refine blk_put (cs := #[.string (⟨#[]⟩ : ByteArray), .int .i64 0, .int .i64 0, .slice none 0 0]) ?_ 2 _ rfl; refine blk_put (cs := #[.string (⟨#[]⟩ : ByteArray), .int .i64 0, .int .i64 0, .slice none 0 0]) ?_ 1 _ rfl; refine blk_put (cs := #[.string (⟨#[]⟩ : ByteArray), .int .i64 0, .int .i64 0, .slice none 0 0]) ?_ 0 _ rfl; exact BK318.out) Tryz.underlying33 rfl (by kernel_rfl)) rfl ?_
  exact ⟨_, rfl, by first | exact Kd.R_nil _ _ _ _ _ | exact Kd.N_nil _ _ _ _ _ | exact Kd.V_nil _ _ _ _ _ | exact Kd.Q_nil _ _ _ _ _ | exact Kd.S_nil _ _ _ _ _, by repeat (first | (with_reducible first | exact HB.out | apply yA | apply yN | apply yD | refine yS ?_ GE316.out | refine yS ?_ GE317.out | refine yS ?_ GE318.out) | exact HB.out)⟩
 rw [if_neg c7] at H
 have c7b0 : (!(a0_1 == a1_1) || (!(a0_2 == a1_2))) = false := by simpa using c7
 clear c7
 replace H := Option.bind_eq_some_iff.mp H
 obtain ⟨t322, A210, H⟩ := H
 replace H : (gangsawref14_Merge.l0 k t322 0 a0_0 a0_1 a0_2 l0_3 a1_0 a1_1 a1_2 l1_3 a0_0 a0_1 a0_2 ([] : List (S48))) = some (r1, r2, r3, r4, r5) := H
 have A21 := aK A210
 clear A210
 have H' := aK H
 clear H
 go_enter Tryz.func27, Tryz.ntmps27
 go_wp2_with (first | ((with_reducible refine gate_dst (N := 2) rfl ?_); refine box_event ?hg (N := 2) ?hd (cs := #[.string a0_0, .int .i64 a0_1, .int .i64 a0_2, .slice A0_3 l0_3.length c0_3]) (t := 33) ?hr ?_; (case hd => rfl); (case hg => rfl); (case hr => first | (go_simp; done) | (go_simp; rfl)); intro gb316 hg w22 hbox hb; have ⟨n0_, n2_⟩ := zV (w := w) hb hg (by repeat (first | (with_reducible first | exact HB.out | apply yA | apply yN | apply yD) | exact HB.out)); have n1_ := aK (hbox); have n3_ := n2_; clear HB; have HB := n0_; have BK316 := n1_; have GW316 := n2_; have GE316 := n3_; clear n0_ n1_ n2_ n3_; clear hb hbox hg) | ((with_reducible refine gate_dst (N := 3) rfl ?_); refine box_event ?hg (N := 3) ?hd (cs := #[.string a1_0, .int .i64 a1_1, .int .i64 a1_2, .slice A1_3 l1_3.length c1_3]) (t := 33) ?hr ?_; (case hd => rfl); (case hg => rfl); (case hr => first | (go_simp; done) | (go_simp; rfl)); intro gb317 hg w23 hbox hb; have n0_ := aK (zB (g := gb316) (o := .cells #[.string a0_0, .int .i64 a0_1, .int .i64 a0_2, .slice A0_3 l0_3.length c0_3] 33 (0, 0)) (BK316.out) hb); have ⟨n1_, n3_⟩ := zV (w := w) hb hg (by repeat (first | (with_reducible first | exact HB.out | apply yA | apply yN | apply yD | refine yS ?_ GE316.out) | exact HB.out)); have n2_ := aK (hbox); have n4_ := n3_; have n5_ := aK ((by rw [hg]; exact Nat.ne_of_lt (blk_lt (g := gb316) (o := .cells #[.string a0_0, .int .i64 a0_1, .int .i64 a0_2, .slice A0_3 l0_3.length c0_3] 33 (0, 0)) (BK316.out)) : gb316 ≠ gb317)); have n6_ := aK ((by rw [hg]; exact Nat.ne_of_gt (blk_lt (g := gb316) (o := .cells #[.string a0_0, .int .i64 a0_1, .int .i64 a0_2, .slice A0_3 l0_3.length c0_3] 33 (0, 0)) (BK316.out)) : gb317 ≠ gb316)); clear BK316; clear HB; have BK316 := n0_; have HB := n1_; have BK317 := n2_; have GW317 := n3_; have GE317 := n4_; have NB316_317 := n5_; have NB317_316 := n6_; clear n0_ n1_ n2_ n3_ n4_ n5_ n6_; clear hb hbox hg) | ((with_reducible refine gate_dst (N := 4) rfl ?_); refine box_event ?hg (N := 4) ?hd (cs := #[.string (⟨#[]⟩ : ByteArray), .int .i64 0, .int .i64 0, .slice none 0 0]) (t := 33) ?hr ?_; (case hd => rfl); (case hg => rfl); (case hr => first | (go_simp; done) | (go_simp; rfl)); intro gb318 hg w24 hbox hb; have n0_ := aK (zB (g := gb316) (o := .cells #[.string a0_0, .int .i64 a0_1, .int .i64 a0_2, .slice A0_3 l0_3.length c0_3] 33 (0, 0)) (BK316.out) hb); have n1_ := aK (zB (g := gb317) (o := .cells #[.string a1_0, .int .i64 a1_1, .int .i64 a1_2, .slice A1_3 l1_3.length c1_3] 33 (0, 0)) (BK317.out) hb); have ⟨n2_, n4_⟩ := zV (w := w) hb hg (by repeat (first | (with_reducible first | exact HB.out | apply yA | apply yN | apply yD | refine yS ?_ GE316.out | refine yS ?_ GE317.out) | exact HB.out)); have n3_ := aK (hbox); have n5_ := n4_; have n6_ := aK ((by rw [hg]; exact Nat.ne_of_lt (blk_lt (g := gb316) (o := .cells #[.string a0_0, .int .i64 a0_1, .int .i64 a0_2, .slice A0_3 l0_3.length c0_3] 33 (0, 0)) (BK316.out)) : gb316 ≠ gb318)); have n7_ := aK ((by rw [hg]; exact Nat.ne_of_gt (blk_lt (g := gb316) (o := .cells #[.string a0_0, .int .i64 a0_1, .int .i64 a0_2, .slice A0_3 l0_3.length c0_3] 33 (0, 0)) (BK316.out)) : gb318 ≠ gb316)); have n8_ := aK ((by rw [hg]; exact Nat.ne_of_lt (blk_lt (g := gb317) (o := .cells #[.string a1_0, .int .i64 a1_1, .int .i64 a1_2, .slice A1_3 l1_3.length c1_3] 33 (0, 0)) (BK317.out)) : gb317 ≠ gb318)); have n9_ := aK ((by rw [hg]; exact Nat.ne_of_gt (blk_lt (g := gb317) (o := .cells #[.string a1_0, .int .i64 a1_1, .int .i64 a1_2, .slice A1_3 l1_3.length c1_3] 33 (0, 0)) (BK317.out)) : gb318 ≠ gb317)); clear BK316; clear BK317; clear HB; have BK316 := n0_; have BK317 := n1_; have HB := n2_; have BK318 := n3_; have GW318 := n4_; have GE318 := n5_; have NB316_318 := n6_; have NB318_316 := n7_; have NB317_318 := n8_; have NB318_317 := n9_; clear n0_ n1_ n2_ n3_ n4_ n5_ n6_ n7_ n8_ n9_; clear hb hbox hg; have hnb25 := NB316_317.out; have hnc25 := NB317_316.out; have hnb26 := NB316_318.out; have hnc26 := NB318_316.out; have hcz27_0 := zI BK316 0 rfl; have hcz27_1 := zI BK316 1 rfl; have hcz27_2 := zI BK316 2 rfl; have hcz27_3 := zI BK316 3 rfl; have hfz27_0 := zF BK316.out 0; have hfz27_1 := zF BK316.out 1; have hfz27_2 := zF BK316.out 2; have hfz27_3 := zF BK316.out 3) | ((with_reducible refine gate_callee (f := 48) rfl ?_); refine goesL_ (some 14) rfl rfl Tryz.func48 (by kernel_rfl) rfl #[.agg #[.string a0_0, .int .i64 a0_1, .int .i64 a0_2, .slice A0_3 l0_3.length c0_3]] rfl (by (try simp only [List.map_toArray, List.map_cons, List.map_nil]); first | done | rfl | (simp only [List.length_drop, List.length_take]; rfl)) ?_; (with_reducible refine (gangsawref14_Formed.calls k a0_0 a0_1 a0_2 _ _ l0_3 t319 _ ?side1 ?side2 A3.out).mono ?_); (case side1 => repeat (first | exact (Kd.C_below HR0_3.out HB.out) | (with_reducible refine Kd.C_alloc ?_ _) | (with_reducible refine Kd.C_drewN ?_ _) | (with_reducible refine Kd.C_drew ?_))); (case side2 => exact HC0_3.out); rintro e w28 ⟨rfl, hb⟩; refine ⟨_, rfl, ?_⟩; have n0_ := aK (zB (g := gb316) (o := .cells #[.string a0_0, .int .i64 a0_1, .int .i64 a0_2, .slice A0_3 l0_3.length c0_3] 33 (0, 0)) (BK316.out) hb); have n1_ := aK (zB (g := gb317) (o := .cells #[.string a1_0, .int .i64 a1_1, .int .i64 a1_2, .slice A1_3 l1_3.length c1_3] 33 (0, 0)) (BK317.out) hb); have n2_ := aK (zB (g := gb318) (o := .cells #[.string (⟨#[]⟩ : ByteArray), .int .i64 0, .int .i64 0, .slice none 0 0] 33 (0, 0)) (BK318.out) hb); have n3_ := aK (yT (by repeat (first | (with_reducible first | exact HB.out | apply yA | apply yN | apply yD | refine yS ?_ GE316.out | refine yS ?_ GE317.out | refine yS ?_ GE318.out) | exact HB.out)) hb); clear BK316; clear BK317; clear BK318; clear HB; have BK316 := n0_; have BK317 := n1_; have BK318 := n2_; have HB := n3_; clear n0_ n1_ n2_ n3_; (try clear hb); have hnb29 := NB317_318.out; have hnc29 := NB318_317.out; have hcz30_0 := zI BK317 0 rfl; have hcz30_1 := zI BK317 1 rfl; have hcz30_2 := zI BK317 2 rfl; have hcz30_3 := zI BK317 3 rfl; have hfz30_0 := zF BK317.out 0; have hfz30_1 := zF BK317.out 1; have hfz30_2 := zF BK317.out 2; have hfz30_3 := zF BK317.out 3) | ((with_reducible refine gate_callee (f := 48) rfl ?_); refine goesL_ (some 20) rfl rfl Tryz.func48 (by kernel_rfl) rfl #[.agg #[.string a1_0, .int .i64 a1_1, .int .i64 a1_2, .slice A1_3 l1_3.length c1_3]] rfl (by (try simp only [List.map_toArray, List.map_cons, List.map_nil]); first | done | rfl | (simp only [List.length_drop, List.length_take]; rfl)) ?_; (with_reducible refine (gangsawref14_Formed.calls k a1_0 a1_1 a1_2 _ _ l1_3 t320 _ ?side1 ?side2 A5.out).mono ?_); (case side1 => repeat (first | exact (Kd.C_below HR1_3.out HB.out) | (with_reducible refine Kd.C_alloc ?_ _) | (with_reducible refine Kd.C_drewN ?_ _) | (with_reducible refine Kd.C_drew ?_))); (case side2 => exact HC1_3.out); rintro e w31 ⟨rfl, hb⟩; refine ⟨_, rfl, ?_⟩; have n0_ := aK (zB (g := gb316) (o := .cells #[.string a0_0, .int .i64 a0_1, .int .i64 a0_2, .slice A0_3 l0_3.length c0_3] 33 (0, 0)) (BK316.out) hb); have n1_ := aK (zB (g := gb317) (o := .cells #[.string a1_0, .int .i64 a1_1, .int .i64 a1_2, .slice A1_3 l1_3.length c1_3] 33 (0, 0)) (BK317.out) hb); have n2_ := aK (zB (g := gb318) (o := .cells #[.string (⟨#[]⟩ : ByteArray), .int .i64 0, .int .i64 0, .slice none 0 0] 33 (0, 0)) (BK318.out) hb); have n3_ := aK (yT (by repeat (first | (with_reducible first | exact HB.out | apply yA | apply yN | apply yD | refine yS ?_ GE316.out | refine yS ?_ GE317.out | refine yS ?_ GE318.out) | exact HB.out)) hb); clear BK316; clear BK317; clear BK318; clear HB; have BK316 := n0_; have BK317 := n1_; have BK318 := n2_; have HB := n3_; clear n0_ n1_ n2_ n3_; (try clear hb); have hcz32_0 := zI BK316 0 rfl; have hcz32_1 := zI BK316 1 rfl; have hcz32_2 := zI BK316 2 rfl; have hcz32_3 := zI BK316 3 rfl; have hfz32_0 := zF BK316.out 0; have hfz32_1 := zF BK316.out 1; have hfz32_2 := zF BK316.out 2; have hfz32_3 := zF BK316.out 3; have hcz33_0 := zI BK317 0 rfl; have hcz33_1 := zI BK317 1 rfl; have hcz33_2 := zI BK317 2 rfl; have hcz33_3 := zI BK317 3 rfl; have hfz33_0 := zF BK317.out 0; have hfz33_1 := zF BK317.out 1; have hfz33_2 := zF BK317.out 2; have hfz33_3 := zF BK317.out 3) | ((with_reducible refine gate_dst (N := 8) rfl ?_); refine box_event ?hg (N := 8) ?hd (cs := #[.string (⟨#[]⟩ : ByteArray), .int .i64 0, .int .i64 0, .slice none 0 0]) (t := 33) ?hr ?_; (case hd => rfl); (case hg => rfl); (case hr => first | (go_simp; done) | (go_simp; rfl)); intro gb321 hg w34 hbox hb; have n0_ := aK (zB (g := gb316) (o := .cells #[.string a0_0, .int .i64 a0_1, .int .i64 a0_2, .slice A0_3 l0_3.length c0_3] 33 (0, 0)) (BK316.out) hb); have n1_ := aK (zB (g := gb317) (o := .cells #[.string a1_0, .int .i64 a1_1, .int .i64 a1_2, .slice A1_3 l1_3.length c1_3] 33 (0, 0)) (BK317.out) hb); have n2_ := aK (zB (g := gb318) (o := .cells #[.string (⟨#[]⟩ : ByteArray), .int .i64 0, .int .i64 0, .slice none 0 0] 33 (0, 0)) (BK318.out) hb); have ⟨n3_, n5_⟩ := zV (w := w) hb hg (by repeat (first | (with_reducible first | exact HB.out | apply yA | apply yN | apply yD | refine yS ?_ GE316.out | refine yS ?_ GE317.out | refine yS ?_ GE318.out) | exact HB.out)); have n4_ := aK (hbox); have n6_ := n5_; have n7_ := aK ((by rw [hg]; exact Nat.ne_of_lt (blk_lt (g := gb316) (o := .cells #[.string a0_0, .int .i64 a0_1, .int .i64 a0_2, .slice A0_3 l0_3.length c0_3] 33 (0, 0)) (BK316.out)) : gb316 ≠ gb321)); have n8_ := aK ((by rw [hg]; exact Nat.ne_of_gt (blk_lt (g := gb316) (o := .cells #[.string a0_0, .int .i64 a0_1, .int .i64 a0_2, .slice A0_3 l0_3.length c0_3] 33 (0, 0)) (BK316.out)) : gb321 ≠ gb316)); have n9_ := aK ((by rw [hg]; exact Nat.ne_of_lt (blk_lt (g := gb317) (o := .cells #[.string a1_0, .int .i64 a1_1, .int .i64 a1_2, .slice A1_3 l1_3.length c1_3] 33 (0, 0)) (BK317.out)) : gb317 ≠ gb321)); have n10_ := aK ((by rw [hg]; exact Nat.ne_of_gt (blk_lt (g := gb317) (o := .cells #[.string a1_0, .int .i64 a1_1, .int .i64 a1_2, .slice A1_3 l1_3.length c1_3] 33 (0, 0)) (BK317.out)) : gb321 ≠ gb317)); have n11_ := aK ((by rw [hg]; exact Nat.ne_of_lt (blk_lt (g := gb318) (o := .cells #[.string (⟨#[]⟩ : ByteArray), .int .i64 0, .int .i64 0, .slice none 0 0] 33 (0, 0)) (BK318.out)) : gb318 ≠ gb321)); have n12_ := aK ((by rw [hg]; exact Nat.ne_of_gt (blk_lt (g := gb318) (o := .cells #[.string (⟨#[]⟩ : ByteArray), .int .i64 0, .int .i64 0, .slice none 0 0] 33 (0, 0)) (BK318.out)) : gb321 ≠ gb318)); clear BK316; clear BK317; clear BK318; clear HB; have BK316 := n0_; have BK317 := n1_; have BK318 := n2_; have HB := n3_; have BK321 := n4_; have GW321 := n5_; have GE321 := n6_; have NB316_321 := n7_; have NB321_316 := n8_; have NB317_321 := n9_; have NB321_317 := n10_; have NB318_321 := n11_; have NB321_318 := n12_; clear n0_ n1_ n2_ n3_ n4_ n5_ n6_ n7_ n8_ n9_ n10_ n11_ n12_; clear hb hbox hg; have hnb35 := NB321_316.out; have hnc35 := NB316_321.out; have hnb36 := NB321_317.out; have hnc36 := NB317_321.out; have hnb37 := NB321_318.out; have hnc37 := NB318_321.out; have hcz38_0 := zI BK321 0 rfl; have hcz38_1 := zI BK321 1 rfl; have hcz38_2 := zI BK321 2 rfl; have hcz38_3 := zI BK321 3 rfl; have hfz38_0 := zF BK321.out 0; have hfz38_1 := zF BK321.out 1; have hfz38_2 := zF BK321.out 2; have hfz38_3 := zF BK321.out 3; have hcz39_0 := zI BK316 0 rfl; have hcz39_1 := zI BK316 1 rfl; have hcz39_2 := zI BK316 2 rfl; have hcz39_3 := zI BK316 3 rfl; have hfz39_0 := zF BK316.out 0; have hfz39_1 := zF BK316.out 1; have hfz39_2 := zF BK316.out 2; have hfz39_3 := zF BK316.out 3; have hcz40_0 := zI BK317 0 rfl; have hcz40_1 := zI BK317 1 rfl; have hcz40_2 := zI BK317 2 rfl; have hcz40_3 := zI BK317 3 rfl; have hfz40_0 := zF BK317.out 0; have hfz40_1 := zF BK317.out 1; have hfz40_2 := zF BK317.out 2; have hfz40_3 := zF BK317.out 3) | ((with_reducible refine gate_callee (f := 59) rfl ?_); refine goesL_ (some 38) rfl rfl Tryz.func59 (by kernel_rfl) rfl #[.agg #[.string a0_0, .int .i64 a0_1, .int .i64 a0_2, .slice A0_3 l0_3.length c0_3], .agg #[.string a1_0, .int .i64 a1_1, .int .i64 a1_2, .slice A1_3 l1_3.length c1_3]] rfl (by (try simp only [List.map_toArray, List.map_cons, List.map_nil]); first | done | rfl | (simp only [List.length_drop, List.length_take]; rfl)) ?_; (with_reducible refine (gangsawref14_ends.calls k a0_0 a0_1 a0_2 _ _ l0_3 a1_0 a1_1 a1_2 _ _ l1_3 t322 _ ?side1 ?side2 ?side3 ?side4 A21.out).mono ?_); (case side1 => exact Kd.C_below HR0_3.out (by repeat (first | (with_reducible first | exact HB.out | apply yA | apply yN | apply yD | refine yS ?_ GE316.out | refine yS ?_ GE317.out | refine yS ?_ GE318.out | refine yS ?_ GE321.out) | exact HB.out))); (case side2 => exact HC0_3.out); (case side3 => exact Kd.C_below HR1_3.out (by repeat (first | (with_reducible first | exact HB.out | apply yA | apply yN | apply yD | refine yS ?_ GE316.out | refine yS ?_ GE317.out | refine yS ?_ GE318.out | refine yS ?_ GE321.out) | exact HB.out))); (case side4 => exact HC1_3.out); rintro e w41 ⟨v323, rfl, ho0, hb⟩; refine ⟨_, rfl, ?_⟩; have n0_ := aK (Kd.R_lower ho0 (yZ (by repeat (first | (with_reducible first | exact HB.out | apply yA | apply yN | apply yD | refine yS ?_ GE316.out | refine yS ?_ GE317.out | refine yS ?_ GE318.out | refine yS ?_ GE321.out) | exact HB.out)))); have n1_ := aK (zB (g := gb316) (o := .cells #[.string a0_0, .int .i64 a0_1, .int .i64 a0_2, .slice A0_3 l0_3.length c0_3] 33 (0, 0)) (by refine blk_far ?_ NB316_321.out _; refine blk_far ?_ NB316_321.out _; refine blk_far ?_ NB316_321.out _; refine blk_far ?_ NB316_321.out _; exact BK316.out) hb); have n2_ := aK (zB (g := gb317) (o := .cells #[.string a1_0, .int .i64 a1_1, .int .i64 a1_2, .slice A1_3 l1_3.length c1_3] 33 (0, 0)) (by refine blk_far ?_ NB317_321.out _; refine blk_far ?_ NB317_321.out _; refine blk_far ?_ NB317_321.out _; refine blk_far ?_ NB317_321.out _; exact BK317.out) hb); have n3_ := aK (zB (g := gb318) (o := .cells #[.string (⟨#[]⟩ : ByteArray), .int .i64 0, .int .i64 0, .slice none 0 0] 33 (0, 0)) (by refine blk_far ?_ NB318_321.out _; refine blk_far ?_ NB318_321.out _; refine blk_far ?_ NB318_321.out _; refine blk_far ?_ NB318_321.out _; exact BK318.out) hb); have n4_ := aK (zB (g := gb321) (o := .cells #[.string a0_0, .int .i64 a0_1, .int .i64 a0_2, .slice none 0 0] 33 (0, 0)) (by refine blk_put (cs := #[.string a0_0, .int .i64 a0_1, .int .i64 a0_2, .slice none 0 0]) ?_ 3 _ rfl; refine blk_put (cs := #[.string a0_0, .int .i64 a0_1, .int .i64 0, .slice none 0 0]) ?_ 2 _ rfl; refine blk_put (cs := #[.string a0_0, .int .i64 0, .int .i64 0, .slice none 0 0]) ?_ 1 _ rfl; refine blk_put (cs := #[.string (⟨#[]⟩ : ByteArray), .int .i64 0, .int .i64 0, .slice none 0 0]) ?_ 0 _ rfl; exact BK321.out) hb); have n5_ := aK (yT (by repeat (first | (with_reducible first | exact HB.out | apply yA | apply yN | apply yD | refine yS ?_ GE316.out | refine yS ?_ GE317.out | refine yS ?_ GE318.out | refine yS ?_ GE321.out) | exact HB.out)) hb); clear BK316; clear BK317; clear BK318; clear BK321; clear HB; have HO324 := n0_; have BK316 := n1_; have BK317 := n2_; have BK318 := n3_; have BK321 := n4_; have HB := n5_; clear n0_ n1_ n2_ n3_ n4_ n5_; (try clear hb); (try clear ho0)))
 go_loopg [10] k (fun kq v10 w' => ∃ (x10_1 : Int) (x319000_1 : ByteArray) (x319001_1 : Int) (x319002_1 : Int) (x322003_1 : List (S48)) (u322003 : Value), v10 = .int .i64 x10_1 ∧ Aside0 (gangsawref14_Merge.l0 kq t322 x10_1 a0_0 a0_1 a0_2 l0_3 a1_0 a1_1 a1_2 l1_3 a0_0 a0_1 a0_2 x322003_1 = some (r1, r2, r3, r4, r5)) ∧ Aside0 (kq ≤ k) ∧ Aside0 (Kd.R (Kd.int .i64) 3 w' w.heap.size (fun _ => True) v323 t322) ∧ Aside0 (Kd.R k48 48 w' w.heap.size (fun _ => True) u322003 x322003_1) ∧ Aside0 (w'.heap[gb316]? = some (.cells #[.string a0_0, .int .i64 a0_1, .int .i64 a0_2, (.slice A0_3 l0_3.length c0_3)] 33 (0, 0))) ∧ Aside0 (w'.heap[gb317]? = some (.cells #[.string a1_0, .int .i64 a1_1, .int .i64 a1_2, (.slice A1_3 l1_3.length c1_3)] 33 (0, 0))) ∧ Aside0 (w'.heap[gb318]? = some (.cells #[.string x319000_1, .int .i64 x319001_1, .int .i64 x319002_1, (.slice none 0 0)] 33 (0, 0))) ∧ Aside0 (w'.heap[gb321]? = some (.cells #[.string a0_0, .int .i64 a0_1, .int .i64 a0_2, u322003] 33 (0, 0))) ∧ Aside0 (Below w.heap.size w w'))
 case atStart => exact ⟨(0), ((⟨#[]⟩ : ByteArray)), (0), (0), (([] : List (S48))), (.slice none 0 0), (by first | rfl | (simp; done) | (simp [*]; done)), H', ⟨Nat.le_refl _⟩, ⟨HO324.out⟩, ⟨by first | exact Kd.R_nil _ _ _ _ _ | exact Kd.N_nil _ _ _ _ _ | exact Kd.V_nil _ _ _ _ _ | exact Kd.Q_nil _ _ _ _ _ | exact Kd.S_nil _ _ _ _ _⟩, ⟨BK316.out⟩, ⟨BK317.out⟩, ⟨BK318.out⟩, ⟨BK321.out⟩, ⟨HB.out⟩⟩
 case round =>
  clear H'
  try clear c1
  try clear c2
  try clear p2
  try clear c3
  try clear c4
  try clear c4b0
  try clear c4b1
  try clear c5
  try clear c6
  try clear c6b0
  try clear c6b1
  try clear c7
  try clear c7b0
  try clear c11
  try clear c12
  try clear c15
  try clear c25
  try clear c26
  try clear c27
  try clear c29
  try clear c35
  try clear c36
  try clear c37
  try clear hcz13_0
  try clear hcz13_1
  try clear hcz13_2
  try clear hcz13_3
  try clear hcz16_0
  try clear hcz16_1
  try clear hcz16_2
  try clear hcz16_3
  try clear hcz18_0
  try clear hcz18_1
  try clear hcz18_2
  try clear hcz18_3
  try clear hcz19_0
  try clear hcz19_1
  try clear hcz19_2
  try clear hcz19_3
  try clear hcz20_0
  try clear hcz20_1
  try clear hcz20_2
  try clear hcz20_3
  try clear hcz27_0
  try clear hcz27_1
  try clear hcz27_2
  try clear hcz27_3
  try clear hcz30_0
  try clear hcz30_1
  try clear hcz30_2
  try clear hcz30_3
  try clear hcz32_0
  try clear hcz32_1
  try clear hcz32_2
  try clear hcz32_3
  try clear hcz33_0
  try clear hcz33_1
  try clear hcz33_2
  try clear hcz33_3
  try clear hcz38_0
  try clear hcz38_1
  try clear hcz38_2
  try clear hcz38_3
  try clear hcz39_0
  try clear hcz39_1
  try clear hcz39_2
  try clear hcz39_3
  try clear hcz40_0
  try clear hcz40_1
  try clear hcz40_2
  try clear hcz40_3
  try clear hfz13_0
  try clear hfz13_1
  try clear hfz13_2
  try clear hfz13_3
  try clear hfz16_0
  try clear hfz16_1
  try clear hfz16_2
  try clear hfz16_3
  try clear hfz18_0
  try clear hfz18_1
  try clear hfz18_2
  try clear hfz18_3
  try clear hfz19_0
  try clear hfz19_1
  try clear hfz19_2
  try clear hfz19_3
  try clear hfz20_0
  try clear hfz20_1
  try clear hfz20_2
  try clear hfz20_3
  try clear hfz27_0
  try clear hfz27_1
  try clear hfz27_2
  try clear hfz27_3
  try clear hfz30_0
  try clear hfz30_1
  try clear hfz30_2
  try clear hfz30_3
  try clear hfz32_0
  try clear hfz32_1
  try clear hfz32_2
  try clear hfz32_3
  try clear hfz33_0
  try clear hfz33_1
  try clear hfz33_2
  try clear hfz33_3
  try clear hfz38_0
  try clear hfz38_1
  try clear hfz38_2
  try clear hfz38_3
  try clear hfz39_0
  try clear hfz39_1
  try clear hfz39_2
  try clear hfz39_3
  try clear hfz40_0
  try clear hfz40_1
  try clear hfz40_2
  try clear hfz40_3
  obtain ⟨x10_1, x319000_1, x319001_1, x319002_1, x322003_1, u322003, rfl, HA, HK1, HO_9, HO_322003, BK316, BK317, BK318, BK321, HB⟩ := hrel
  cases gk with
  | zero => exact absurd HA.out (by simp [gangsawref14_Merge.l0])
  | succ k1 =>
   have H := HA.out
   clear HA
   simp only [gangsawref14_Merge.l0] at H
   by_cases c42 : (wrap64 (x10_1 + 1)) < (t322.length : Int)
   rotate_left
   ·rw [if_neg c42] at H
    have c42b0 : decide ((wrap64 (x10_1 + 1)) < (t322.length : Int)) = false := decide_eq_false c42
    (try rw [hji45] at c42b0)
    (try rw [hji69] at c42b0)
    (try rw [hji79] at c42b0)
    clear c42
    replace H := Option.bind_eq_some_iff.mp H
    obtain ⟨t325, A870, H⟩ := H
    replace H : (some (a0_0, a0_1, a0_2, t325, 0)) = some (r1, r2, r3, r4, r5) := H
    have A87 := aK A870
    clear A870
    simp only [Option.some.injEq, Prod.mk.injEq] at H
    obtain ⟨rfl, rfl, rfl, rfl, rfl⟩ := H
    obtain ⟨Ao88, co88, eo88⟩ := Kd.R_slice HO_9.out
    subst eo88
    have hnb89 := NB321_316.out
    have hnc89 := NB316_321.out
    have hnb90 := NB321_317.out
    have hnc90 := NB317_321.out
    have hnb91 := NB321_318.out
    have hnc91 := NB318_321.out
    have hcz92_0 := zI BK321 0 rfl
    have hcz92_1 := zI BK321 1 rfl
    have hcz92_2 := zI BK321 2 rfl
    have hcz92_3 := zI BK321 3 rfl
    have hfz92_0 := zF BK321.out 0
    have hfz92_1 := zF BK321.out 1
    have hfz92_2 := zF BK321.out 2
    have hfz92_3 := zF BK321.out 3
    obtain ⟨Ao93, co93, eo93⟩ := Kd.R_slice HO_322003.out
    subst eo93
    go_wp2_with (first | ((with_reducible refine gate_callee (f := 49) rfl ?_); refine goesL_ (some 103) rfl rfl Tryz.func49 (by kernel_rfl) rfl #[.slice Ao93 x322003_1.length co93] rfl (by (try simp only [List.map_toArray, List.map_cons, List.map_nil]); first | done | rfl | (simp only [List.length_drop, List.length_take]; rfl)) ?_; (with_reducible refine (gangsawref14_joined.calls k1 _ _ x322003_1 t325 _ ?side1 ?side2 A87.out).mono ?_); (case side1 => repeat (first | exact (Kd.R_reads' HO_322003.out).2.2 | (with_reducible refine Kd.C_alloc ?_ _) | (with_reducible refine Kd.C_drewN ?_ _) | (with_reducible refine Kd.C_drew ?_))); (case side2 => exact (Kd.R_reads' HO_322003.out).2.1); rintro e w94 ⟨v326, rfl, ho0, hb⟩; refine ⟨_, rfl, ?_⟩; have n0_ := aK (Kd.R_below (HO_9.out) hb); have n1_ := aK (Kd.R_elder' (HO_322003.out) (Kd.R_base ho0) hb); have n2_ := aK (Kd.R_lower (Kd.R_new' ho0 (Kd.R_lt (HO_322003.out))) (yZ (by repeat (first | (with_reducible first | exact HB.out | apply yA | apply yN | apply yD | refine yS ?_ GE316.out | refine yS ?_ GE317.out | refine yS ?_ GE318.out | refine yS ?_ GE321.out) | exact HB.out)))); have n3_ := aK (zB (g := gb316) (o := .cells #[.string a0_0, .int .i64 a0_1, .int .i64 a0_2, .slice A0_3 l0_3.length c0_3] 33 (0, 0)) (BK316.out) hb); have n4_ := aK (zB (g := gb317) (o := .cells #[.string a1_0, .int .i64 a1_1, .int .i64 a1_2, .slice A1_3 l1_3.length c1_3] 33 (0, 0)) (BK317.out) hb); have n5_ := aK (zB (g := gb318) (o := .cells #[.string x319000_1, .int .i64 x319001_1, .int .i64 x319002_1, .slice none 0 0] 33 (0, 0)) (BK318.out) hb); have n6_ := aK (zB (g := gb321) (o := .cells #[.string a0_0, .int .i64 a0_1, .int .i64 a0_2, .slice Ao93 x322003_1.length co93] 33 (0, 0)) (BK321.out) hb); have n7_ := aK (yT (by repeat (first | (with_reducible first | exact HB.out | apply yA | apply yN | apply yD | refine yS ?_ GE316.out | refine yS ?_ GE317.out | refine yS ?_ GE318.out | refine yS ?_ GE321.out) | exact HB.out)) hb); clear HO_9; clear HO_322003; clear BK316; clear BK317; clear BK318; clear BK321; clear HB; have HO_9 := n0_; have HO_322003 := n1_; have HO327 := n2_; have BK316 := n3_; have BK317 := n4_; have BK318 := n5_; have BK321 := n6_; have HB := n7_; clear n0_ n1_ n2_ n3_ n4_ n5_ n6_ n7_; (try clear hb); (try clear ho0); obtain ⟨Ao95, co95, eo95⟩ := Kd.R_slice HO327.out; subst eo95; have hcz96_0 := zI BK321 0 rfl; have hcz96_1 := zI BK321 1 rfl; have hcz96_2 := zI BK321 2 rfl; have hcz96_3 := zI BK321 3 rfl; have hfz96_0 := zF BK321.out 0; have hfz96_1 := zF BK321.out 1; have hfz96_2 := zF BK321.out 2; have hfz96_3 := zF BK321.out 3; have hnb97 := NB318_316.out; have hnc97 := NB316_318.out; have hnb98 := NB318_317.out; have hnc98 := NB317_318.out; have hcz99_0 := zI BK318 0 rfl; have hcz99_1 := zI BK318 1 rfl; have hcz99_2 := zI BK318 2 rfl; have hcz99_3 := zI BK318 3 rfl; have hfz99_0 := zF BK318.out 0; have hfz99_1 := zF BK318.out 1; have hfz99_2 := zF BK318.out 2; have hfz99_3 := zF BK318.out 3))
    refine bodyPost_ret (results_ct rfl _ _ gb318 33 #[.string a0_0, .int .i64 a0_1, .int .i64 a0_2, .slice Ao95 t325.length co95] (0, 0) _ rfl (by refine blk_put (cs := #[.string a0_0, .int .i64 a0_1, .int .i64 a0_2, .slice none 0 0]) ?_ 3 _ rfl; refine blk_put (cs := #[.string a0_0, .int .i64 a0_1, .int .i64 x319002_1, .slice none 0 0]) ?_ 2 _ rfl; refine blk_put (cs := #[.string a0_0, .int .i64 x319001_1, .int .i64 x319002_1, .slice none 0 0]) ?_ 1 _ rfl; refine blk_put (cs := #[.string x319000_1, .int .i64 x319001_1, .int .i64 x319002_1, .slice none 0 0]) ?_ 0 _ rfl; refine blk_far ?_ NB318_321.out _; exact BK318.out) Tryz.underlying33 rfl (by kernel_rfl)) rfl ?_
    exact ⟨_, rfl, by (with_reducible repeat (first | apply Kd.R_alloc | apply Kd.R_drewN | apply Kd.R_drew)); exact Kd.R_mono (Kd.R_far (p := ⟨gb318, 3, none⟩) (Kd.R_far (p := ⟨gb318, 2, none⟩) (Kd.R_far (p := ⟨gb318, 1, none⟩) (Kd.R_far (p := ⟨gb318, 0, none⟩) (Kd.R_far (p := ⟨gb321, 3, none⟩) (Kd.R_types (Kd.R_types HO327.out BK321.out (by decide)) BK318.out (by decide)) (fun _ hk => hk.1.2) (.slice Ao95 t325.length co95)) (fun _ hk => hk.2) (.string a0_0)) (fun _ hk => hk.2) (.int .i64 a0_1)) (fun _ hk => hk.2) (.int .i64 a0_2)) (fun _ hk => hk.2) (.slice Ao95 t325.length co95)) (fun _ hk => trivial), by repeat (first | (with_reducible first | exact HB.out | apply yA | apply yN | apply yD | refine yS ?_ GE316.out | refine yS ?_ GE317.out | refine yS ?_ GE318.out | refine yS ?_ GE321.out) | exact HB.out)⟩
   rw [if_pos c42] at H
   have c42b0 : decide ((wrap64 (x10_1 + 1)) < (t322.length : Int)) = true := decide_eq_true c42
   clear c42
   by_cases c43 : 0 ≤ x10_1
   rotate_left
   ·rw [if_neg c43] at H
    exact absurd H (by simp)
   rw [if_pos c43] at H
   have c43b0 : decide (0 ≤ x10_1) = true := decide_eq_true c43
   clear c43
   by_cases c44 : x10_1 < (t322.length : Int)
   rotate_left
   ·rw [if_neg c44] at H
    exact absurd H (by simp)
   rw [if_pos c44] at H
   have c44b0 : decide (x10_1 < (t322.length : Int)) = true := decide_eq_true c44
   clear c44
   obtain ⟨ji45, hji45⟩ : ∃ j_ : Int, (wrap64 (x10_1 + 1)) = j_ := ⟨_, rfl⟩
   replace H : (if 0 ≤ (ji45) then (if (rd t322 x10_1) = (rd t322 (ji45)) then (gangsawref14_Merge.l0 k1 t322 ji45 a0_0 a0_1 a0_2 l0_3 a1_0 a1_1 a1_2 l1_3 a0_0 a0_1 a0_2 x322003_1) else ((gangsawref14_State.f k1 a0_0 a0_1 a0_2 l0_3 (rd t322 x10_1)).bind fun t331 => ((gangsawref14_State.f k1 a1_0 a1_1 a1_2 l1_3 (rd t322 x10_1)).bind fun t333 => (if t331 = 0 then (gangsawref14_Merge.j1 k1 t322 x10_1 t331 t333 false a0_0 a0_1 a0_2 l0_3 a1_0 a1_1 a1_2 l1_3 a0_0 a0_1 a0_2 x322003_1) else (if t333 = 0 then (gangsawref14_Merge.j1 k1 t322 x10_1 t331 t333 false a0_0 a0_1 a0_2 l0_3 a1_0 a1_1 a1_2 l1_3 a0_0 a0_1 a0_2 x322003_1) else (gangsawref14_Merge.j1 k1 t322 x10_1 t331 t333 (t331 != t333) a0_0 a0_1 a0_2 l0_3 a1_0 a1_1 a1_2 l1_3 a0_0 a0_1 a0_2 x322003_1)))))) else (none)) = some (r1, r2, r3, r4, r5) := by first | (rw [hji45] at H; exact H) | (simp only [hji45] at H ⊢; exact H)
   (try rw [hji45] at c42b0)
   have hji45w : (IntKind.i64.wrap (x10_1 + 1)) = ji45 := (i64_w _).trans hji45
   by_cases c46 : 0 ≤ (ji45)
   rotate_left
   ·rw [if_neg c46] at H
    exact absurd H (by simp)
   rw [if_pos c46] at H
   have c46b0 : decide (0 ≤ (ji45)) = true := decide_eq_true c46
   clear c46
   by_cases c47 : (rd t322 x10_1) = (rd t322 (ji45))
   ·rw [if_pos c47] at H
    have c47b0 : ((rd t322 x10_1) == (rd t322 (ji45))) = true := beq_iff_eq.mpr c47
    have c47b1 : ((rd t322 x10_1) != (rd t322 (ji45))) = false := bne_eq_false_iff_eq.mpr c47
    clear c47
    have H' := aK H
    clear H
    obtain ⟨Ao48, co48, eo48⟩ := Kd.R_slice HO_9.out
    subst eo48
    try go_wp2
    have n0_ := aK (Kd.R_drew HO_9.out)
    have n1_ := aK (Kd.R_drew HO_322003.out)
    have n2_ := aK (zD BK316.out)
    have n3_ := aK (zD BK317.out)
    have n4_ := aK (zD BK318.out)
    have n5_ := aK (zD BK321.out)
    have n6_ := aK (yD HB.out)
    clear HO_9
    clear HO_322003
    clear BK316
    clear BK317
    clear BK318
    clear BK321
    clear HB
    have HO_9 := n0_
    have HO_322003 := n1_
    have BK316 := n2_
    have BK317 := n3_
    have BK318 := n4_
    have BK321 := n5_
    have HB := n6_
    clear n0_ n1_ n2_ n3_ n4_ n5_ n6_
    have p328 : 0 ≤ (x10_1 : Int) := of_decide_eq_true (by assumption)
    have q328 : x10_1 < (t322.length : Int) := of_decide_eq_true (by assumption)
    obtain ⟨ad328, e328, hx328_0⟩ := Kd.at_int (Kd.R_reads' HO_9.out).2.2 x10_1 p328 q328
    cases e328
    replace p328 := eq_true p328
    replace q328 := eq_true q328
    have p329 : 0 ≤ ((ji45) : Int) := of_decide_eq_true (by assumption)
    have q329 : (ji45) < (t322.length : Int) := of_decide_eq_true (by assumption)
    obtain ⟨ad329, e329, hx329_0⟩ := Kd.at_int (Kd.R_reads' HO_9.out).2.2 (ji45) p329 q329
    obtain rfl : ad328 = ad329 := (by injection e329)
    replace p329 := eq_true p329
    replace q329 := eq_true q329
    refine start_ (n := 10) (S := fun w' => w'.cell? (ad328.add (x10_1).toNat) = some (.int .i64 (rd t322 x10_1)) ∧ w'.cell? (ad328.add ((ji45)).toNat) = some (.int .i64 (rd t322 (ji45)))) (ds := []) #[false, false, false, false, false, false, false, false, false, false] (by kernel_rfl) rfl rfl ⟨hx328_0, hx329_0⟩ (fun hHeld => ?_); refine with_tabW gangsawref14_Merge.tab14 gangsawref14_Merge.bits14 (fun HT_ HW_ => ?_)
    generalize wr.drew = w49 at HO_9 HO_322003 BK316 BK317 BK318 BK321 HB hx328_0 hx329_0 hHeld ⊢
    refine pure_ (i := 0) (N := some 46) (v := ?_) (a' := ?_) #[true, false, false, false, false, false, false, false, false, false] rfl rfl (any_of HT_.out (by kernel_rfl)) (fun _ _ _ h => h) (Or.inl ⟨by rfl, ?_⟩) ?_ ?_
    rotate_left
    ·intro w'
     go_simp
     with_reducible rfl
    rotate_left
    ·simp only [Act.put, sA, sZ, sS, i64_w, i32_w]
     rfl
    refine pure_ (i := 1) (N := some 47) (v := ?_) (a' := ?_) #[true, true, false, false, false, false, false, false, false, false] rfl rfl (any_of HT_.out (by kernel_rfl)) (fun _ _ _ h => h) (Or.inl ⟨by rfl, ?_⟩) ?_ ?_
    rotate_left
    ·intro w'
     go_simp
     with_reducible rfl
    rotate_left
    ·simp only [Act.put, sA, sZ, sS, i64_w, i32_w]
     rfl
    refine pure_ (i := 2) (N := some 48) (v := ?_) (a' := ?_) #[true, true, true, false, false, false, false, false, false, false] rfl rfl (any_of HT_.out (by kernel_rfl)) (fun _ _ _ h => h) (Or.inl ⟨by rfl, ?_⟩) ?_ ?_
    rotate_left
    ·intro w'
     go_simp
     with_reducible rfl
    rotate_left
    ·simp only [Act.put, sA, sZ, sS, i64_w, i32_w]
     rfl
    refine pure_ (i := 4) (N := some 50) (v := ?_) (a' := ?_) #[true, true, true, false, true, false, false, false, false, false] rfl rfl (any_of HT_.out (by kernel_rfl)) (fun _ _ _ h => h) (Or.inl ⟨by rfl, ?_⟩) ?_ ?_
    rotate_left
    ·intro w'
     go_simp
     with_reducible rfl
    rotate_left
    ·simp only [Act.put, sA, sZ, sS, i64_w, i32_w]
     rfl
    refine pure_ (i := 5) (N := some 51) (v := ?_) (a' := ?_) #[true, true, true, false, true, true, false, false, false, false] rfl rfl (any_of HT_.out (by kernel_rfl)) (fun _ _ _ h => h) (Or.inl ⟨by rfl, ?_⟩) ?_ ?_
    rotate_left
    ·intro w'
     go_simp
     with_reducible rfl
    rotate_left
    ·simp only [Act.put, sA, sZ, sS, i64_w, i32_w]
     rfl
    refine pure_ (i := 6) (N := some 52) (v := ?_) (a' := ?_) #[true, true, true, false, true, true, true, false, false, false] rfl rfl (any_of HT_.out (by kernel_rfl)) (fun _ _ _ h => h) (Or.inl ⟨by rfl, ?_⟩) ?_ ?_
    rotate_left
    ·intro w'
     go_simp
     with_reducible rfl
    rotate_left
    ·simp only [Act.put, sA, sZ, sS, i64_w, i32_w]
     rfl
    refine pure_ (i := 7) (N := some 53) (v := ?_) (a' := ?_) #[true, true, true, false, true, true, true, true, false, false] rfl rfl (any_of HT_.out (by kernel_rfl)) (fun _ _ _ h => h) (Or.inl ⟨by rfl, ?_⟩) ?_ ?_
    rotate_left
    ·intro w'
     go_simp
     with_reducible rfl
    rotate_left
    ·simp only [Act.put, sA, sZ, sS, i64_w, i32_w]
     rfl
    refine take_ (i := 3) (N := some 49) (v := ?_) (a' := ?_) #[true, true, true, true, true, true, true, true, false, false] rfl rfl (take_ofW HT_.out HW_.out (by kernel_rfl)) (fun _ _ _ h => h) (Or.inl ⟨by rfl, ?_⟩) hHeld ?_ ?_
    rotate_left
    ·rintro w' ⟨s0, s1⟩
     go_simp
     with_reducible rfl
    rotate_left
    ·simp only [Act.put, sA, sZ, sS, i64_w, i32_w]
     rfl
    refine take_ (i := 8) (N := some 54) (v := ?_) (a' := ?_) #[true, true, true, true, true, true, true, true, true, false] rfl rfl (take_ofW HT_.out HW_.out (by kernel_rfl)) (fun _ _ _ h => h) (Or.inl ⟨by rfl, ?_⟩) hHeld ?_ ?_
    rotate_left
    ·rintro w' ⟨s0, s1⟩
     go_simp
     with_reducible rfl
    rotate_left
    ·simp only [Act.put, sA, sZ, sS, i64_w, i32_w]
     rfl
    refine pure_ (i := 9) (N := some 55) (v := ?_) (a' := ?_) #[true, true, true, true, true, true, true, true, true, true] rfl rfl (any_of HT_.out (by kernel_rfl)) (fun _ _ _ h => h) (Or.inl ⟨by rfl, ?_⟩) ?_ ?_
    rotate_left
    ·intro w'
     go_simp
     with_reducible rfl
    rotate_left
    ·simp only [Act.put, sA, sZ, sS, i64_w, i32_w]
     rfl
    refine done_ (done_of HT_.out (by kernel_rfl)) ?_
    try go_wp2
    go_roundg k1
    case measure => have := HK1.out; omega
    case rel => exact ⟨(ji45), (x319000_1), (x319001_1), (x319002_1), (x322003_1), (u322003), (by first | rfl | (simp; done) | (simp only [← hji45] <;> (first | rfl | simp)) | (simp [*]; done)), H', ⟨by have := HK1.out; omega⟩, ⟨HO_9.out⟩, ⟨HO_322003.out⟩, ⟨BK316.out⟩, ⟨BK317.out⟩, ⟨BK318.out⟩, ⟨BK321.out⟩, ⟨HB.out⟩⟩
   rw [if_neg c47] at H
   have c47b0 : ((rd t322 x10_1) == (rd t322 (ji45))) = false := beq_eq_false_iff_ne.mpr c47
   have c47b1 : ((rd t322 x10_1) != (rd t322 (ji45))) = true := bne_iff_ne.mpr c47
   replace H := Option.bind_eq_some_iff.mp H
   obtain ⟨t331, A500, H⟩ := H
   replace H : ((gangsawref14_State.f k1 a1_0 a1_1 a1_2 l1_3 (rd t322 x10_1)).bind fun t333 => (if t331 = 0 then (gangsawref14_Merge.j1 k1 t322 x10_1 t331 t333 false a0_0 a0_1 a0_2 l0_3 a1_0 a1_1 a1_2 l1_3 a0_0 a0_1 a0_2 x322003_1) else (if t333 = 0 then (gangsawref14_Merge.j1 k1 t322 x10_1 t331 t333 false a0_0 a0_1 a0_2 l0_3 a1_0 a1_1 a1_2 l1_3 a0_0 a0_1 a0_2 x322003_1) else (gangsawref14_Merge.j1 k1 t322 x10_1 t331 t333 (t331 != t333) a0_0 a0_1 a0_2 l0_3 a1_0 a1_1 a1_2 l1_3 a0_0 a0_1 a0_2 x322003_1)))) = some (r1, r2, r3, r4, r5) := H
   have A50 := aK A500
   clear A500
   replace H := Option.bind_eq_some_iff.mp H
   obtain ⟨t333, A510, H⟩ := H
   replace H : (if t331 = 0 then (gangsawref14_Merge.j1 k1 t322 x10_1 t331 t333 false a0_0 a0_1 a0_2 l0_3 a1_0 a1_1 a1_2 l1_3 a0_0 a0_1 a0_2 x322003_1) else (if t333 = 0 then (gangsawref14_Merge.j1 k1 t322 x10_1 t331 t333 false a0_0 a0_1 a0_2 l0_3 a1_0 a1_1 a1_2 l1_3 a0_0 a0_1 a0_2 x322003_1) else (gangsawref14_Merge.j1 k1 t322 x10_1 t331 t333 (t331 != t333) a0_0 a0_1 a0_2 l0_3 a1_0 a1_1 a1_2 l1_3 a0_0 a0_1 a0_2 x322003_1))) = some (r1, r2, r3, r4, r5) := H
   have A51 := aK A510
   clear A510
   have HC52 := aK H
   clear H
   obtain ⟨Ao53, co53, eo53⟩ := Kd.R_slice HO_9.out
   subst eo53
   try go_wp2
   have n0_ := aK (Kd.R_drew HO_9.out)
   have n1_ := aK (Kd.R_drew HO_322003.out)
   have n2_ := aK (zD BK316.out)
   have n3_ := aK (zD BK317.out)
   have n4_ := aK (zD BK318.out)
   have n5_ := aK (zD BK321.out)
   have n6_ := aK (yD HB.out)
   clear HO_9
   clear HO_322003
   clear BK316
   clear BK317
   clear BK318
   clear BK321
   clear HB
   have HO_9 := n0_
   have HO_322003 := n1_
   have BK316 := n2_
   have BK317 := n3_
   have BK318 := n4_
   have BK321 := n5_
   have HB := n6_
   clear n0_ n1_ n2_ n3_ n4_ n5_ n6_
   have p328 : 0 ≤ (x10_1 : Int) := of_decide_eq_true (by assumption)
   have q328 : x10_1 < (t322.length : Int) := of_decide_eq_true (by assumption)
   obtain ⟨ad328, e328, hx328_0⟩ := Kd.at_int (Kd.R_reads' HO_9.out).2.2 x10_1 p328 q328
   cases e328
   replace p328 := eq_true p328
   replace q328 := eq_true q328
   have p329 : 0 ≤ ((ji45) : Int) := of_decide_eq_true (by assumption)
   have q329 : (ji45) < (t322.length : Int) := of_decide_eq_true (by assumption)
   obtain ⟨ad329, e329, hx329_0⟩ := Kd.at_int (Kd.R_reads' HO_9.out).2.2 (ji45) p329 q329
   obtain rfl : ad328 = ad329 := (by injection e329)
   replace p329 := eq_true p329
   replace q329 := eq_true q329
   refine start_ (n := 10) (S := fun w' => w'.cell? (ad328.add (x10_1).toNat) = some (.int .i64 (rd t322 x10_1)) ∧ w'.cell? (ad328.add ((ji45)).toNat) = some (.int .i64 (rd t322 (ji45)))) (ds := []) #[false, false, false, false, false, false, false, false, false, false] (by kernel_rfl) rfl rfl ⟨hx328_0, hx329_0⟩ (fun hHeld => ?_); refine with_tabW gangsawref14_Merge.tab14 gangsawref14_Merge.bits14 (fun HT_ HW_ => ?_)
   generalize wr.drew = w54 at HO_9 HO_322003 BK316 BK317 BK318 BK321 HB hx328_0 hx329_0 hHeld ⊢
   refine pure_ (i := 0) (N := some 46) (v := ?_) (a' := ?_) #[true, false, false, false, false, false, false, false, false, false] rfl rfl (any_of HT_.out (by kernel_rfl)) (fun _ _ _ h => h) (Or.inl ⟨by rfl, ?_⟩) ?_ ?_
   rotate_left
   ·intro w'
    go_simp
    with_reducible rfl
   rotate_left
   ·simp only [Act.put, sA, sZ, sS, i64_w, i32_w]
    rfl
   refine pure_ (i := 1) (N := some 47) (v := ?_) (a' := ?_) #[true, true, false, false, false, false, false, false, false, false] rfl rfl (any_of HT_.out (by kernel_rfl)) (fun _ _ _ h => h) (Or.inl ⟨by rfl, ?_⟩) ?_ ?_
   rotate_left
   ·intro w'
    go_simp
    with_reducible rfl
   rotate_left
   ·simp only [Act.put, sA, sZ, sS, i64_w, i32_w]
    rfl
   refine pure_ (i := 2) (N := some 48) (v := ?_) (a' := ?_) #[true, true, true, false, false, false, false, false, false, false] rfl rfl (any_of HT_.out (by kernel_rfl)) (fun _ _ _ h => h) (Or.inl ⟨by rfl, ?_⟩) ?_ ?_
   rotate_left
   ·intro w'
    go_simp
    with_reducible rfl
   rotate_left
   ·simp only [Act.put, sA, sZ, sS, i64_w, i32_w]
    rfl
   refine pure_ (i := 4) (N := some 50) (v := ?_) (a' := ?_) #[true, true, true, false, true, false, false, false, false, false] rfl rfl (any_of HT_.out (by kernel_rfl)) (fun _ _ _ h => h) (Or.inl ⟨by rfl, ?_⟩) ?_ ?_
   rotate_left
   ·intro w'
    go_simp
    with_reducible rfl
   rotate_left
   ·simp only [Act.put, sA, sZ, sS, i64_w, i32_w]
    rfl
   refine pure_ (i := 5) (N := some 51) (v := ?_) (a' := ?_) #[true, true, true, false, true, true, false, false, false, false] rfl rfl (any_of HT_.out (by kernel_rfl)) (fun _ _ _ h => h) (Or.inl ⟨by rfl, ?_⟩) ?_ ?_
   rotate_left
   ·intro w'
    go_simp
    with_reducible rfl
   rotate_left
   ·simp only [Act.put, sA, sZ, sS, i64_w, i32_w]
    rfl
   refine pure_ (i := 6) (N := some 52) (v := ?_) (a' := ?_) #[true, true, true, false, true, true, true, false, false, false] rfl rfl (any_of HT_.out (by kernel_rfl)) (fun _ _ _ h => h) (Or.inl ⟨by rfl, ?_⟩) ?_ ?_
   rotate_left
   ·intro w'
    go_simp
    with_reducible rfl
   rotate_left
   ·simp only [Act.put, sA, sZ, sS, i64_w, i32_w]
    rfl
   refine pure_ (i := 7) (N := some 53) (v := ?_) (a' := ?_) #[true, true, true, false, true, true, true, true, false, false] rfl rfl (any_of HT_.out (by kernel_rfl)) (fun _ _ _ h => h) (Or.inl ⟨by rfl, ?_⟩) ?_ ?_
   rotate_left
   ·intro w'
    go_simp
    with_reducible rfl
   rotate_left
   ·simp only [Act.put, sA, sZ, sS, i64_w, i32_w]
    rfl
   refine take_ (i := 3) (N := some 49) (v := ?_) (a' := ?_) #[true, true, true, true, true, true, true, true, false, false] rfl rfl (take_ofW HT_.out HW_.out (by kernel_rfl)) (fun _ _ _ h => h) (Or.inl ⟨by rfl, ?_⟩) hHeld ?_ ?_
   rotate_left
   ·rintro w' ⟨s0, s1⟩
    go_simp
    with_reducible rfl
   rotate_left
   ·simp only [Act.put, sA, sZ, sS, i64_w, i32_w]
    rfl
   refine take_ (i := 8) (N := some 54) (v := ?_) (a' := ?_) #[true, true, true, true, true, true, true, true, true, false] rfl rfl (take_ofW HT_.out HW_.out (by kernel_rfl)) (fun _ _ _ h => h) (Or.inl ⟨by rfl, ?_⟩) hHeld ?_ ?_
   rotate_left
   ·rintro w' ⟨s0, s1⟩
    go_simp
    with_reducible rfl
   rotate_left
   ·simp only [Act.put, sA, sZ, sS, i64_w, i32_w]
    rfl
   refine pure_ (i := 9) (N := some 55) (v := ?_) (a' := ?_) #[true, true, true, true, true, true, true, true, true, true] rfl rfl (any_of HT_.out (by kernel_rfl)) (fun _ _ _ h => h) (Or.inl ⟨by rfl, ?_⟩) ?_ ?_
   rotate_left
   ·intro w'
    go_simp
    with_reducible rfl
   rotate_left
   ·simp only [Act.put, sA, sZ, sS, i64_w, i32_w]
    rfl
   refine done_ (done_of HT_.out (by kernel_rfl)) ?_
   try go_wp2
   have n0_ := aK (Kd.R_drew HO_9.out)
   have n1_ := aK (Kd.R_drew HO_322003.out)
   have n2_ := aK (zD BK316.out)
   have n3_ := aK (zD BK317.out)
   have n4_ := aK (zD BK318.out)
   have n5_ := aK (zD BK321.out)
   have n6_ := aK (yD HB.out)
   clear HO_9
   clear HO_322003
   clear BK316
   clear BK317
   clear BK318
   clear BK321
   clear HB
   have HO_9 := n0_
   have HO_322003 := n1_
   have BK316 := n2_
   have BK317 := n3_
   have BK318 := n4_
   have BK321 := n5_
   have HB := n6_
   clear n0_ n1_ n2_ n3_ n4_ n5_ n6_
   have p330 : 0 ≤ (x10_1 : Int) := of_decide_eq_true (by assumption)
   have q330 : x10_1 < (t322.length : Int) := of_decide_eq_true (by assumption)
   obtain ⟨ad330, e330, hx330_0⟩ := Kd.at_int (Kd.R_reads' HO_9.out).2.2 x10_1 p330 q330
   obtain rfl : ad328 = ad330 := (by injection e330)
   replace p330 := eq_true p330
   replace q330 := eq_true q330
   have p332 : 0 ≤ (x10_1 : Int) := of_decide_eq_true (by assumption)
   have q332 : x10_1 < (t322.length : Int) := of_decide_eq_true (by assumption)
   obtain ⟨ad332, e332, hx332_0⟩ := Kd.at_int (Kd.R_reads' HO_9.out).2.2 x10_1 p332 q332
   obtain rfl : ad328 = ad332 := (by injection e332)
   replace p332 := eq_true p332
   replace q332 := eq_true q332
   refine start_ (n := 14) (S := fun w' => w'.cell? ⟨gb316, 0, none⟩ = some (.string a0_0) ∧ w'.cell? ⟨gb316, 1, none⟩ = some (.int .i64 a0_1) ∧ w'.cell? ⟨gb316, 2, none⟩ = some (.int .i64 a0_2) ∧ w'.cell? ⟨gb316, 3, none⟩ = some (.slice A0_3 l0_3.length c0_3) ∧ w'.cell? ⟨gb317, 0, none⟩ = some (.string a1_0) ∧ w'.cell? ⟨gb317, 1, none⟩ = some (.int .i64 a1_1) ∧ w'.cell? ⟨gb317, 2, none⟩ = some (.int .i64 a1_2) ∧ w'.cell? ⟨gb317, 3, none⟩ = some (.slice A1_3 l1_3.length c1_3) ∧ w'.cell? (ad328.add (x10_1).toNat) = some (.int .i64 (rd t322 x10_1)) ∧ w'.cell? (ad328.add (x10_1).toNat) = some (.int .i64 (rd t322 x10_1))) (ds := []) #[false, false, false, false, false, false, false, false, false, false, false, false, false, false] (by kernel_rfl) rfl rfl ⟨(zC BK316.out 0).trans rfl, (zC BK316.out 1).trans rfl, (zC BK316.out 2).trans rfl, (zC BK316.out 3).trans rfl, (zC BK317.out 0).trans rfl, (zC BK317.out 1).trans rfl, (zC BK317.out 2).trans rfl, (zC BK317.out 3).trans rfl, hx330_0, hx332_0⟩ (fun hHeld => ?_); refine with_tabW gangsawref14_Merge.tab15 gangsawref14_Merge.bits15 (fun HT_ HW_ => ?_)
   generalize w54.drew = w55 at HO_9 HO_322003 BK316 BK317 BK318 BK321 HB hx330_0 hx332_0 hHeld ⊢
   refine pure_ (i := 1) (N := some 57) (v := ?_) (a' := ?_) #[false, true, false, false, false, false, false, false, false, false, false, false, false, false] rfl rfl (any_of HT_.out (by kernel_rfl)) (fun _ _ _ h => h) (Or.inl ⟨by rfl, ?_⟩) ?_ ?_
   rotate_left
   ·intro w'
    go_simp
    with_reducible rfl
   rotate_left
   ·simp only [Act.put, sA, sZ, sS, i64_w, i32_w]
    rfl
   refine pure_ (i := 2) (N := some 58) (v := ?_) (a' := ?_) #[false, true, true, false, false, false, false, false, false, false, false, false, false, false] rfl rfl (any_of HT_.out (by kernel_rfl)) (fun _ _ _ h => h) (Or.inl ⟨by rfl, ?_⟩) ?_ ?_
   rotate_left
   ·intro w'
    go_simp
    with_reducible rfl
   rotate_left
   ·simp only [Act.put, sA, sZ, sS, i64_w, i32_w]
    rfl
   refine pure_ (i := 3) (N := some 59) (v := ?_) (a' := ?_) #[false, true, true, true, false, false, false, false, false, false, false, false, false, false] rfl rfl (any_of HT_.out (by kernel_rfl)) (fun _ _ _ h => h) (Or.inl ⟨by rfl, ?_⟩) ?_ ?_
   rotate_left
   ·intro w'
    go_simp
    with_reducible rfl
   rotate_left
   ·simp only [Act.put, sA, sZ, sS, i64_w, i32_w]
    rfl
   refine pure_ (i := 7) (N := some 63) (v := ?_) (a' := ?_) #[false, true, true, true, false, false, false, true, false, false, false, false, false, false] rfl rfl (any_of HT_.out (by kernel_rfl)) (fun _ _ _ h => h) (Or.inl ⟨by rfl, ?_⟩) ?_ ?_
   rotate_left
   ·intro w'
    go_simp
    with_reducible rfl
   rotate_left
   ·simp only [Act.put, sA, sZ, sS, i64_w, i32_w]
    rfl
   refine pure_ (i := 8) (N := some 64) (v := ?_) (a' := ?_) #[false, true, true, true, false, false, false, true, true, false, false, false, false, false] rfl rfl (any_of HT_.out (by kernel_rfl)) (fun _ _ _ h => h) (Or.inl ⟨by rfl, ?_⟩) ?_ ?_
   rotate_left
   ·intro w'
    go_simp
    with_reducible rfl
   rotate_left
   ·simp only [Act.put, sA, sZ, sS, i64_w, i32_w]
    rfl
   refine pure_ (i := 9) (N := some 65) (v := ?_) (a' := ?_) #[false, true, true, true, false, false, false, true, true, true, false, false, false, false] rfl rfl (any_of HT_.out (by kernel_rfl)) (fun _ _ _ h => h) (Or.inl ⟨by rfl, ?_⟩) ?_ ?_
   rotate_left
   ·intro w'
    go_simp
    with_reducible rfl
   rotate_left
   ·simp only [Act.put, sA, sZ, sS, i64_w, i32_w]
    rfl
   refine take_ (i := 0) (N := some 56) (v := ?_) (a' := ?_) #[true, true, true, true, false, false, false, true, true, true, false, false, false, false] rfl rfl (take_ofW HT_.out HW_.out (by kernel_rfl)) (fun _ _ _ h => h) (Or.inl ⟨by rfl, ?_⟩) hHeld ?_ ?_
   rotate_left
   ·rintro w' ⟨s0, s1, s2, s3, s4, s5, s6, s7, s8, s9⟩
    go_simp
    with_reducible rfl
   rotate_left
   ·simp only [Act.put, sA, sZ, sS, i64_w, i32_w]
    rfl
   refine take_ (i := 4) (N := some 60) (v := ?_) (a' := ?_) #[true, true, true, true, true, false, false, true, true, true, false, false, false, false] rfl rfl (take_ofW HT_.out HW_.out (by kernel_rfl)) (fun _ _ _ h => h) (Or.inl ⟨by rfl, ?_⟩) hHeld ?_ ?_
   rotate_left
   ·rintro w' ⟨s0, s1, s2, s3, s4, s5, s6, s7, s8, s9⟩
    go_simp
    with_reducible rfl
   rotate_left
   ·simp only [Act.put, sA, sZ, sS, i64_w, i32_w]
    rfl
   refine take_ (i := 6) (N := some 62) (v := ?_) (a' := ?_) #[true, true, true, true, true, false, true, true, true, true, false, false, false, false] rfl rfl (take_ofW HT_.out HW_.out (by kernel_rfl)) (fun _ _ _ h => h) (Or.inl ⟨by rfl, ?_⟩) hHeld ?_ ?_
   rotate_left
   ·rintro w' ⟨s0, s1, s2, s3, s4, s5, s6, s7, s8, s9⟩
    go_simp
    with_reducible rfl
   rotate_left
   ·simp only [Act.put, sA, sZ, sS, i64_w, i32_w]
    rfl
   refine take_ (i := 10) (N := some 66) (v := ?_) (a' := ?_) #[true, true, true, true, true, false, true, true, true, true, true, false, false, false] rfl rfl (take_ofW HT_.out HW_.out (by kernel_rfl)) (fun _ _ _ h => h) (Or.inl ⟨by rfl, ?_⟩) hHeld ?_ ?_
   rotate_left
   ·rintro w' ⟨s0, s1, s2, s3, s4, s5, s6, s7, s8, s9⟩
    go_simp
    with_reducible rfl
   rotate_left
   ·simp only [Act.put, sA, sZ, sS, i64_w, i32_w]
    rfl
   refine one_ (i := 5) (N := some 61) #[true, true, true, true, true, true, true, true, true, true, true, false, false, false] rfl rfl (one_of HT_.out (by kernel_rfl)) (by decide) (fun K hK => ?_)
   refine goes_ Tryz.func22 (by kernel_rfl) rfl #[.agg #[.string a0_0, .int .i64 a0_1, .int .i64 a0_2, .slice A0_3 l0_3.length c0_3], .int .i64 (rd t322 x10_1)] (by rfl) rfl rfl (by (try simp only [List.map_toArray, List.map_cons, List.map_nil]); first | done | rfl | (simp only [List.length_drop, List.length_take]; rfl)) ?_
   with_reducible refine (gangsawref14_State.calls k1 a0_0 a0_1 a0_2 _ _ l0_3 (rd t322 x10_1) t331 _ ?side1 ?side2 A50.out).mono ?_
   (case side1 => repeat (first | exact (Kd.C_below HR0_3.out HB.out) | (with_reducible refine Kd.C_alloc ?_ _) | (with_reducible refine Kd.C_drewN ?_ _) | (with_reducible refine Kd.C_drew ?_)))
   (case side2 => exact HC0_3.out)
   rintro e w56 ⟨rfl, hb⟩
   have HS8_ := (hb.cell (World.block_lt_of_cell? _ _ (hHeld.2.2.2.2.2.2.2.2.1))).trans (hHeld.2.2.2.2.2.2.2.2.1)
   have HS9_ := (hb.cell (World.block_lt_of_cell? _ _ (hHeld.2.2.2.2.2.2.2.2.2))).trans (hHeld.2.2.2.2.2.2.2.2.2)
   refine ⟨_, rfl, ?_⟩
   have n0_ := aK (Kd.R_below (HO_9.out) hb)
   have n1_ := aK (Kd.R_below (HO_322003.out) hb)
   have n2_ := aK (zB (g := gb316) (o := .cells #[.string a0_0, .int .i64 a0_1, .int .i64 a0_2, .slice A0_3 l0_3.length c0_3] 33 (0, 0)) (BK316.out) hb)
   have n3_ := aK (zB (g := gb317) (o := .cells #[.string a1_0, .int .i64 a1_1, .int .i64 a1_2, .slice A1_3 l1_3.length c1_3] 33 (0, 0)) (BK317.out) hb)
   have n4_ := aK (zB (g := gb318) (o := .cells #[.string x319000_1, .int .i64 x319001_1, .int .i64 x319002_1, .slice none 0 0] 33 (0, 0)) (BK318.out) hb)
   have n5_ := aK (zB (g := gb321) (o := .cells #[.string a0_0, .int .i64 a0_1, .int .i64 a0_2, u322003] 33 (0, 0)) (BK321.out) hb)
   have n6_ := aK (yT (by repeat (first | (with_reducible first | exact HB.out | apply yA | apply yN | apply yD | refine yS ?_ GE316.out | refine yS ?_ GE317.out | refine yS ?_ GE318.out | refine yS ?_ GE321.out) | exact HB.out)) hb)
   clear HO_9
   clear HO_322003
   clear BK316
   clear BK317
   clear BK318
   clear BK321
   clear HB
   have HO_9 := n0_
   have HO_322003 := n1_
   have BK316 := n2_
   have BK317 := n3_
   have BK318 := n4_
   have BK321 := n5_
   have HB := n6_
   clear n0_ n1_ n2_ n3_ n4_ n5_ n6_
   (try clear hb)
   (try clear hb2)
   (try clear hk)
   (try clear hi)
   refine hK.out _ _ ⟨(zC BK316.out 0).trans rfl, (zC BK316.out 1).trans rfl, (zC BK316.out 2).trans rfl, (zC BK316.out 3).trans rfl, (zC BK317.out 0).trans rfl, (zC BK317.out 1).trans rfl, (zC BK317.out 2).trans rfl, (zC BK317.out 3).trans rfl, HS8_, HS9_⟩ (fun hHeld => ?_)
   clear hK K
   refine norm_ (a' := ?_) ?_ ?_
   rotate_left
   ·show Act.put _ (some 61) _ = _
    simp only [Act.put, sA, sZ, sS, i64_w, i32_w]
    rfl
   refine one_ (i := 11) (N := some 67) #[true, true, true, true, true, true, true, true, true, true, true, true, false, false] rfl rfl (one_of HT_.out (by kernel_rfl)) (by decide) (fun K hK => ?_)
   refine goes_ Tryz.func22 (by kernel_rfl) rfl #[.agg #[.string a1_0, .int .i64 a1_1, .int .i64 a1_2, .slice A1_3 l1_3.length c1_3], .int .i64 (rd t322 x10_1)] (by rfl) rfl rfl (by (try simp only [List.map_toArray, List.map_cons, List.map_nil]); first | done | rfl | (simp only [List.length_drop, List.length_take]; rfl)) ?_
   with_reducible refine (gangsawref14_State.calls k1 a1_0 a1_1 a1_2 _ _ l1_3 (rd t322 x10_1) t333 _ ?side1 ?side2 A51.out).mono ?_
   (case side1 => repeat (first | exact (Kd.C_below HR1_3.out HB.out) | (with_reducible refine Kd.C_alloc ?_ _) | (with_reducible refine Kd.C_drewN ?_ _) | (with_reducible refine Kd.C_drew ?_)))
   (case side2 => exact HC1_3.out)
   rintro e w57 ⟨rfl, hb⟩
   have HS8_ := (hb.cell (World.block_lt_of_cell? _ _ (hHeld.2.2.2.2.2.2.2.2.1))).trans (hHeld.2.2.2.2.2.2.2.2.1)
   have HS9_ := (hb.cell (World.block_lt_of_cell? _ _ (hHeld.2.2.2.2.2.2.2.2.2))).trans (hHeld.2.2.2.2.2.2.2.2.2)
   refine ⟨_, rfl, ?_⟩
   have n0_ := aK (Kd.R_below (HO_9.out) hb)
   have n1_ := aK (Kd.R_below (HO_322003.out) hb)
   have n2_ := aK (zB (g := gb316) (o := .cells #[.string a0_0, .int .i64 a0_1, .int .i64 a0_2, .slice A0_3 l0_3.length c0_3] 33 (0, 0)) (BK316.out) hb)
   have n3_ := aK (zB (g := gb317) (o := .cells #[.string a1_0, .int .i64 a1_1, .int .i64 a1_2, .slice A1_3 l1_3.length c1_3] 33 (0, 0)) (BK317.out) hb)
   have n4_ := aK (zB (g := gb318) (o := .cells #[.string x319000_1, .int .i64 x319001_1, .int .i64 x319002_1, .slice none 0 0] 33 (0, 0)) (BK318.out) hb)
   have n5_ := aK (zB (g := gb321) (o := .cells #[.string a0_0, .int .i64 a0_1, .int .i64 a0_2, u322003] 33 (0, 0)) (BK321.out) hb)
   have n6_ := aK (yT (by repeat (first | (with_reducible first | exact HB.out | apply yA | apply yN | apply yD | refine yS ?_ GE316.out | refine yS ?_ GE317.out | refine yS ?_ GE318.out | refine yS ?_ GE321.out) | exact HB.out)) hb)
   clear HO_9
   clear HO_322003
   clear BK316
   clear BK317
   clear BK318
   clear BK321
   clear HB
   have HO_9 := n0_
   have HO_322003 := n1_
   have BK316 := n2_
   have BK317 := n3_
   have BK318 := n4_
   have BK321 := n5_
   have HB := n6_
   clear n0_ n1_ n2_ n3_ n4_ n5_ n6_
   (try clear hb)
   (try clear hb2)
   (try clear hk)
   (try clear hi)
   refine hK.out _ _ ⟨(zC BK316.out 0).trans rfl, (zC BK316.out 1).trans rfl, (zC BK316.out 2).trans rfl, (zC BK316.out 3).trans rfl, (zC BK317.out 0).trans rfl, (zC BK317.out 1).trans rfl, (zC BK317.out 2).trans rfl, (zC BK317.out 3).trans rfl, HS8_, HS9_⟩ (fun hHeld => ?_)
   clear hK K
   refine norm_ (a' := ?_) ?_ ?_
   rotate_left
   ·show Act.put _ (some 67) _ = _
    simp only [Act.put, sA, sZ, sS, i64_w, i32_w]
    rfl
   refine pure_ (i := 12) (N := some 11) (v := ?_) (a' := ?_) #[true, true, true, true, true, true, true, true, true, true, true, true, true, false] rfl rfl (any_of HT_.out (by kernel_rfl)) (fun _ _ _ h => h) (Or.inl ⟨by rfl, ?_⟩) ?_ ?_
   rotate_left
   ·intro w'
    go_simp
    with_reducible rfl
   rotate_left
   ·simp only [Act.put, sA, sZ, sS, i64_w, i32_w]
    rfl
   refine pure_ (i := 13) (N := some 12) (v := ?_) (a' := ?_) #[true, true, true, true, true, true, true, true, true, true, true, true, true, true] rfl rfl (any_of HT_.out (by kernel_rfl)) (fun _ _ _ h => h) (Or.inl ⟨by rfl, ?_⟩) ?_ ?_
   rotate_left
   ·intro w'
    go_simp
    with_reducible rfl
   rotate_left
   ·simp only [Act.put, sA, sZ, sS, i64_w, i32_w]
    rfl
   refine done_ (done_of HT_.out (by kernel_rfl)) ?_
   go_upto_region 16 with (fail)
   go_cut [78] (fun v78 wc => ∃ (kq : Nat) (x78_51 : Bool), v78 = .bool x78_51 ∧ Aside0 (gangsawref14_Merge.j1 kq t322 x10_1 t331 t333 x78_51 a0_0 a0_1 a0_2 l0_3 a1_0 a1_1 a1_2 l1_3 a0_0 a0_1 a0_2 x322003_1 = some (r1, r2, r3, r4, r5)) ∧ Aside0 (kq ≤ k1) ∧ Aside0 (Kd.R (Kd.int .i64) 3 wc w.heap.size (fun _ => True) (.slice (some ad328) t322.length co53) t322) ∧ Aside0 (Kd.R k48 48 wc w.heap.size (fun _ => True) u322003 x322003_1) ∧ Aside0 (wc.heap[gb316]? = some (.cells #[.string a0_0, .int .i64 a0_1, .int .i64 a0_2, (.slice A0_3 l0_3.length c0_3)] 33 (0, 0))) ∧ Aside0 (wc.heap[gb317]? = some (.cells #[.string a1_0, .int .i64 a1_1, .int .i64 a1_2, (.slice A1_3 l1_3.length c1_3)] 33 (0, 0))) ∧ Aside0 (wc.heap[gb318]? = some (.cells #[.string x319000_1, .int .i64 x319001_1, .int .i64 x319002_1, (.slice none 0 0)] 33 (0, 0))) ∧ Aside0 (wc.heap[gb321]? = some (.cells #[.string a0_0, .int .i64 a0_1, .int .i64 a0_2, u322003] 33 (0, 0))) ∧ Aside0 (Below w.heap.size w wc))
   case first =>
    have H := HC52.out
    clear HC52
    by_cases c58 : t331 = 0
    ·rw [if_pos c58] at H
     have c58b0 : (t331 == 0) = true := beq_iff_eq.mpr c58
     have c58b1 : (t331 != 0) = false := bne_eq_false_iff_eq.mpr c58
     clear c58
     (first | rw [c58b0] | (simp only [i64_w, i32_w]; rw [c58b0]) | skip)
     have H' := aK H
     clear H
     go_wp2
     go_meet
     case rel => exact ⟨_, (false), (by first | rfl | (simp; done) | (simp [*]; done)), H', ⟨by have := HK1.out; first | omega | exact Nat.le_refl _⟩, ⟨HO_9.out⟩, ⟨HO_322003.out⟩, ⟨BK316.out⟩, ⟨BK317.out⟩, ⟨BK318.out⟩, ⟨BK321.out⟩, ⟨by repeat (first | (with_reducible first | exact HB.out | apply yA | apply yN | apply yD | refine yS ?_ GE316.out | refine yS ?_ GE317.out | refine yS ?_ GE318.out | refine yS ?_ GE321.out) | exact HB.out)⟩⟩
    rw [if_neg c58] at H
    have c58b0 : (t331 == 0) = false := beq_eq_false_iff_ne.mpr c58
    have c58b1 : (t331 != 0) = true := bne_iff_ne.mpr c58
    (first | rw [c58b0] | (simp only [i64_w, i32_w]; rw [c58b0]) | skip)
    by_cases c59 : t333 = 0
    rotate_left
    ·rw [if_neg c59] at H
     have c59b0 : (t333 == 0) = false := beq_eq_false_iff_ne.mpr c59
     have c59b1 : (t333 != 0) = true := bne_iff_ne.mpr c59
     have H' := aK H
     clear H
     go_wp2
     go_meet
     case rel => exact ⟨_, ((t331 != t333)), (by first | rfl | (simp; done) | (simp [*]; done)), H', ⟨by have := HK1.out; first | omega | exact Nat.le_refl _⟩, ⟨HO_9.out⟩, ⟨HO_322003.out⟩, ⟨BK316.out⟩, ⟨BK317.out⟩, ⟨BK318.out⟩, ⟨BK321.out⟩, ⟨by repeat (first | (with_reducible first | exact HB.out | apply yA | apply yN | apply yD | refine yS ?_ GE316.out | refine yS ?_ GE317.out | refine yS ?_ GE318.out | refine yS ?_ GE321.out) | exact HB.out)⟩⟩
    rw [if_pos c59] at H
    have c59b0 : (t333 == 0) = true := beq_iff_eq.mpr c59
    have c59b1 : (t333 != 0) = false := bne_eq_false_iff_eq.mpr c59
    clear c59
    have H' := aK H
    clear H
    go_wp2
    go_meet
    case rel => exact ⟨_, (false), (by first | rfl | (simp; done) | (simp [*]; done)), H', ⟨by have := HK1.out; first | omega | exact Nat.le_refl _⟩, ⟨HO_9.out⟩, ⟨HO_322003.out⟩, ⟨BK316.out⟩, ⟨BK317.out⟩, ⟨BK318.out⟩, ⟨BK321.out⟩, ⟨by repeat (first | (with_reducible first | exact HB.out | apply yA | apply yN | apply yD | refine yS ?_ GE316.out | refine yS ?_ GE317.out | refine yS ?_ GE318.out | refine yS ?_ GE321.out) | exact HB.out)⟩⟩
   case rest =>
    clear HC52
    try clear c1
    try clear c2
    try clear p2
    try clear p3
    try clear q3
    try clear hx3
    try clear c4
    try clear c5
    try clear p6
    try clear c22
    try clear p32
    try clear q32
    try clear hx32
    try clear p33
    try clear q33
    try clear hx33
    try clear c42
    try clear c42b0
    try clear c43
    try clear c43b0
    try clear c44
    try clear c44b0
    try clear c46
    try clear c46b0
    try clear c47
    try clear c47b0
    try clear c47b1
    try clear c58
    try clear c58b0
    try clear c58b1
    try clear c59
    try clear c59b0
    try clear c59b1
    try clear hcz40_3
    try clear hfz13_0
    try clear hfz13_1
    try clear hfz13_2
    try clear hfz13_3
    try clear hfz16_0
    try clear hfz16_1
    try clear hfz16_2
    try clear hfz16_3
    try clear hfz18_0
    try clear hfz18_1
    try clear hfz18_2
    try clear hfz18_3
    try clear hfz19_0
    try clear hfz19_1
    try clear hfz19_2
    try clear hfz19_3
    try clear hfz20_0
    try clear hfz20_1
    try clear hfz20_2
    try clear hfz20_3
    try clear hfz27_0
    try clear hfz27_1
    try clear hfz27_2
    try clear hfz27_3
    try clear hfz30_0
    try clear hfz30_1
    try clear hfz30_2
    try clear hfz30_3
    try clear hfz32_0
    try clear hfz32_1
    try clear hfz32_2
    try clear hfz32_3
    try clear hfz33_0
    try clear hfz33_1
    try clear hfz33_2
    try clear hfz33_3
    try clear hfz38_0
    try clear hfz38_1
    try clear hfz38_2
    try clear hfz38_3
    try clear hfz39_0
    try clear hfz39_1
    try clear hfz39_2
    try clear hfz39_3
    try clear hfz40_0
    try clear hfz40_1
    try clear hfz40_2
    try clear hfz40_3
    try clear hx328_0
    try clear hx329_0
    try clear hx330_0
    try clear hx332_0
    try clear p328
    try clear p329
    try clear p330
    try clear p332
    try clear q328
    try clear q329
    try clear q330
    try clear q332
    obtain ⟨kq, x78_51, rfl, HA, HJ51, HO_9, HO_322003, BK316, BK317, BK318, BK321, HB⟩ := hcut
    cases kq with
    | zero => exact absurd HA.out (by simp [gangsawref14_Merge.j1])
    | succ kj51 =>
     have H := HA.out
     clear HA
     simp only [gangsawref14_Merge.j1] at H
     by_cases c60 : x78_51 = true
     ·subst c60
      have H1 : (some ((⟨#[]⟩ : ByteArray), 0, 0, ([] : List (S48)), 10)) = some (r1, r2, r3, r4, r5) := by rw [if_pos rfl] at H; exact H
      clear H
      have H := H1
      clear H1
      simp only [Option.some.injEq, Prod.mk.injEq] at H
      obtain ⟨rfl, rfl, rfl, rfl, rfl⟩ := H
      have hnb61 := NB318_316.out
      have hnc61 := NB316_318.out
      have hnb62 := NB318_317.out
      have hnc62 := NB317_318.out
      have hnb63 := NB318_321.out
      have hnc63 := NB321_318.out
      have hcz64_0 := zI BK318 0 rfl
      have hcz64_1 := zI BK318 1 rfl
      have hcz64_2 := zI BK318 2 rfl
      have hcz64_3 := zI BK318 3 rfl
      have hfz64_0 := zF BK318.out 0
      have hfz64_1 := zF BK318.out 1
      have hfz64_2 := zF BK318.out 2
      have hfz64_3 := zF BK318.out 3
      go_wp2
      refine bodyPost_ret (results_ct rfl _ _ gb318 33 #[.string (⟨#[]⟩ : ByteArray), .int .i64 0, .int .i64 0, .slice none 0 0] (0, 0) _ rfl (by refine blk_put (cs := #[.string (⟨#[]⟩ : ByteArray), .int .i64 0, .int .i64 0, .slice none 0 0]) ?_ 3 _ rfl; refine blk_put (cs := #[.string (⟨#[]⟩ : ByteArray), .int .i64 0, .int .i64 x319002_1, .slice none 0 0]) ?_ 2 _ rfl; refine blk_put (cs := #[.string (⟨#[]⟩ : ByteArray), .int .i64 x319001_1, .int .i64 x319002_1, .slice none 0 0]) ?_ 1 _ rfl; refine blk_put (cs := #[.string x319000_1, .int .i64 x319001_1, .int .i64 x319002_1, .slice none 0 0]) ?_ 0 _ rfl; exact BK318.out) Tryz.underlying33 rfl (by kernel_rfl)) rfl ?_
      exact ⟨_, by first | rfl | (simp [errW_none, errW_some] <;> rfl) | (simp only [← hji45]; first | rfl | (simp [errW_none, errW_some] <;> rfl)) | (simp [*, errW_none, errW_some] <;> rfl), by first | exact Kd.R_nil _ _ _ _ _ | exact Kd.N_nil _ _ _ _ _ | exact Kd.V_nil _ _ _ _ _ | exact Kd.Q_nil _ _ _ _ _ | exact Kd.S_nil _ _ _ _ _, by repeat (first | (with_reducible first | exact HB.out | apply yA | apply yN | apply yD | refine yS ?_ GE316.out | refine yS ?_ GE317.out | refine yS ?_ GE318.out | refine yS ?_ GE321.out) | exact HB.out)⟩
     replace c60 := Bool.eq_false_iff.mpr c60
     subst c60
     have H1 : (if t331 = 0 then (if t333 = 0 then (gangsawref14_Merge.l0 kj51 t322 (wrap64 (x10_1 + 1)) a0_0 a0_1 a0_2 l0_3 a1_0 a1_1 a1_2 l1_3 a0_0 a0_1 a0_2 x322003_1) else (if 0 ≤ x10_1 then (if x10_1 < (t322.length : Int) then (if 0 ≤ (wrap64 (x10_1 + 1)) then (if (wrap64 (x10_1 + 1)) < (t322.length : Int) then (if x322003_1.length < 5864062014805 then (gangsawref14_Merge.l0 kj51 t322 (wrap64 (x10_1 + 1)) a0_0 a0_1 a0_2 l0_3 a1_0 a1_1 a1_2 l1_3 a0_0 a0_1 a0_2 (x322003_1 ++ [(⟨rd t322 x10_1, rd t322 (wrap64 (x10_1 + 1)), t333⟩ : S48)])) else (none)) else (none)) else (none)) else (none)) else (none))) else (if 0 ≤ x10_1 then (if x10_1 < (t322.length : Int) then (if 0 ≤ (wrap64 (x10_1 + 1)) then (if (wrap64 (x10_1 + 1)) < (t322.length : Int) then (if x322003_1.length < 5864062014805 then (gangsawref14_Merge.l0 kj51 t322 (wrap64 (x10_1 + 1)) a0_0 a0_1 a0_2 l0_3 a1_0 a1_1 a1_2 l1_3 a0_0 a0_1 a0_2 (x322003_1 ++ [(⟨rd t322 x10_1, rd t322 (wrap64 (x10_1 + 1)), t331⟩ : S48)])) else (none)) else (none)) else (none)) else (none)) else (none))) = some (r1, r2, r3, r4, r5) := by rw [if_neg (show ¬ (false = true) by decide)] at H; exact H
     clear H
     have H := H1
     clear H1
     by_cases c65 : t331 = 0
     rotate_left
     ·rw [if_neg c65] at H
      have c65b0 : (t331 == 0) = false := beq_eq_false_iff_ne.mpr c65
      have c65b1 : (t331 != 0) = true := bne_iff_ne.mpr c65
      by_cases c77 : 0 ≤ x10_1
      rotate_left
      ·rw [if_neg c77] at H
       exact absurd H (by simp)
      rw [if_pos c77] at H
      have c77b0 : decide (0 ≤ x10_1) = true := decide_eq_true c77
      clear c77
      by_cases c78 : x10_1 < (t322.length : Int)
      rotate_left
      ·rw [if_neg c78] at H
       exact absurd H (by simp)
      rw [if_pos c78] at H
      have c78b0 : decide (x10_1 < (t322.length : Int)) = true := decide_eq_true c78
      clear c78
      obtain ⟨ji79, hji79⟩ : ∃ j_ : Int, (wrap64 (x10_1 + 1)) = j_ := ⟨_, rfl⟩
      (try (have hq_ : ji79 = ji45 := hji79.symm.trans hji45; subst hq_))
      (try (have hq_ : ji79 = ji69 := hji79.symm.trans hji69; subst hq_))
      replace H : (if 0 ≤ (ji79) then (if (ji79) < (t322.length : Int) then (if x322003_1.length < 5864062014805 then (gangsawref14_Merge.l0 kj51 t322 ji79 a0_0 a0_1 a0_2 l0_3 a1_0 a1_1 a1_2 l1_3 a0_0 a0_1 a0_2 (x322003_1 ++ [(⟨rd t322 x10_1, rd t322 (ji79), t331⟩ : S48)])) else (none)) else (none)) else (none)) = some (r1, r2, r3, r4, r5) := by first | (rw [hji79] at H; exact H) | (simp only [hji79] at H ⊢; exact H)
      (try rw [hji79] at c42b0)
      have hji79w : (IntKind.i64.wrap (x10_1 + 1)) = ji79 := (i64_w _).trans hji79
      by_cases c80 : 0 ≤ (ji79)
      rotate_left
      ·rw [if_neg c80] at H
       exact absurd H (by simp)
      rw [if_pos c80] at H
      have c80b0 : decide (0 ≤ (ji79)) = true := decide_eq_true c80
      clear c80
      by_cases c81 : (ji79) < (t322.length : Int)
      rotate_left
      ·rw [if_neg c81] at H
       exact absurd H (by simp)
      rw [if_pos c81] at H
      have c81b0 : decide ((ji79) < (t322.length : Int)) = true := decide_eq_true c81
      clear c81
      by_cases c82 : x322003_1.length < 5864062014805
      rotate_left
      ·rw [if_neg c82] at H
       exact absurd H (by simp)
      rw [if_pos c82] at H
      have LMc82 := aK c82
      clear c82
      obtain ⟨y341, hy341⟩ : ∃ y_ : List (S48), y_ = (x322003_1 ++ [(⟨rd t322 x10_1, rd t322 (ji79), t331⟩ : S48)]) := ⟨_, rfl⟩
      replace H : (gangsawref14_Merge.l0 kj51 t322 ji79 a0_0 a0_1 a0_2 l0_3 a1_0 a1_1 a1_2 l1_3 a0_0 a0_1 a0_2 y341) = some (r1, r2, r3, r4, r5) := by first | (rw [hy341]; with_reducible exact H) | (have H2_ := (Option.bind_some _ _).symm.trans H; rw [hy341]; with_reducible exact H2_) | (have H2_ := (Option.bind_some _ _).symm.trans H; with_reducible exact H2_) | with_reducible exact H | (rw [hy341]; exact H) | exact H
      have Ny341 := aK hy341
      clear hy341
      have H' := aK H
      clear H
      try go_wp2
      have n0_ := aK (Kd.R_drew HO_9.out)
      have n1_ := aK (Kd.R_drew HO_322003.out)
      have n2_ := aK (zD BK316.out)
      have n3_ := aK (zD BK317.out)
      have n4_ := aK (zD BK318.out)
      have n5_ := aK (zD BK321.out)
      have n6_ := aK (yD HB.out)
      clear HO_9
      clear HO_322003
      clear BK316
      clear BK317
      clear BK318
      clear BK321
      clear HB
      have HO_9 := n0_
      have HO_322003 := n1_
      have BK316 := n2_
      have BK317 := n3_
      have BK318 := n4_
      have BK321 := n5_
      have HB := n6_
      clear n0_ n1_ n2_ n3_ n4_ n5_ n6_
      have p339 : 0 ≤ (x10_1 : Int) := of_decide_eq_true (by assumption)
      have q339 : x10_1 < (t322.length : Int) := of_decide_eq_true (by assumption)
      obtain ⟨ad339, e339, hx339_0⟩ := Kd.at_int (Kd.R_reads' HO_9.out).2.2 x10_1 p339 q339
      obtain rfl : ad328 = ad339 := (by injection e339)
      replace p339 := eq_true p339
      replace q339 := eq_true q339
      have p340 : 0 ≤ ((ji79) : Int) := of_decide_eq_true (by assumption)
      have q340 : (ji79) < (t322.length : Int) := of_decide_eq_true (by assumption)
      obtain ⟨ad340, e340, hx340_0⟩ := Kd.at_int (Kd.R_reads' HO_9.out).2.2 (ji79) p340 q340
      obtain rfl : ad328 = ad340 := (by injection e340)
      replace p340 := eq_true p340
      replace q340 := eq_true q340
      refine start_ (n := 17) (S := fun w' => w'.cell? ⟨gb321, 0, none⟩ = some (.string a0_0) ∧ w'.cell? ⟨gb321, 1, none⟩ = some (.int .i64 a0_1) ∧ w'.cell? ⟨gb321, 2, none⟩ = some (.int .i64 a0_2) ∧ w'.cell? ⟨gb321, 3, none⟩ = some (u322003) ∧ w'.cell? (ad328.add (x10_1).toNat) = some (.int .i64 (rd t322 x10_1)) ∧ w'.cell? (ad328.add ((ji79)).toNat) = some (.int .i64 (rd t322 (ji79)))) (ds := [14, 16]) #[false, false, false, false, false, false, false, false, false, false, false, false, false, false, false, false, false] (by kernel_rfl) rfl rfl ⟨(zC BK321.out 0).trans rfl, (zC BK321.out 1).trans rfl, (zC BK321.out 2).trans rfl, (zC BK321.out 3).trans rfl, hx339_0, hx340_0⟩ (fun hHeld => ?_); refine with_tabW gangsawref14_Merge.tab21 gangsawref14_Merge.bits21 (fun HT_ HW_ => ?_)
      generalize wc.drew = w83 at HO_9 HO_322003 BK316 BK317 BK318 BK321 HB hx339_0 hx340_0 hHeld ⊢
      refine pure_ (i := 0) (N := some 85) (v := ?_) (a' := ?_) #[true, false, false, false, false, false, false, false, false, false, false, false, false, false, false, false, false] rfl rfl (any_of HT_.out (by kernel_rfl)) (fun _ _ _ h => h) (Or.inl ⟨by rfl, ?_⟩) ?_ ?_
      rotate_left
      ·intro w'
       go_simp
       with_reducible rfl
      rotate_left
      ·simp only [Act.put, sA, sZ, sS, i64_w, i32_w]
       rfl
      refine pure_ (i := 2) (N := some 87) (v := ?_) (a' := ?_) #[true, false, true, false, false, false, false, false, false, false, false, false, false, false, false, false, false] rfl rfl (any_of HT_.out (by kernel_rfl)) (fun _ _ _ h => h) (Or.inl ⟨by rfl, ?_⟩) ?_ ?_
      rotate_left
      ·intro w'
       go_simp
       with_reducible rfl
      rotate_left
      ·simp only [Act.put, sA, sZ, sS, i64_w, i32_w]
       rfl
      refine pure_ (i := 3) (N := some 88) (v := ?_) (a' := ?_) #[true, false, true, true, false, false, false, false, false, false, false, false, false, false, false, false, false] rfl rfl (any_of HT_.out (by kernel_rfl)) (fun _ _ _ h => h) (Or.inl ⟨by rfl, ?_⟩) ?_ ?_
      rotate_left
      ·intro w'
       go_simp
       with_reducible rfl
      rotate_left
      ·simp only [Act.put, sA, sZ, sS, i64_w, i32_w]
       rfl
      refine pure_ (i := 4) (N := some 89) (v := ?_) (a' := ?_) #[true, false, true, true, true, false, false, false, false, false, false, false, false, false, false, false, false] rfl rfl (any_of HT_.out (by kernel_rfl)) (fun _ _ _ h => h) (Or.inl ⟨by rfl, ?_⟩) ?_ ?_
      rotate_left
      ·intro w'
       go_simp
       with_reducible rfl
      rotate_left
      ·simp only [Act.put, sA, sZ, sS, i64_w, i32_w]
       rfl
      refine pure_ (i := 6) (N := some 91) (v := ?_) (a' := ?_) #[true, false, true, true, true, false, true, false, false, false, false, false, false, false, false, false, false] rfl rfl (any_of HT_.out (by kernel_rfl)) (fun _ _ _ h => h) (Or.inl ⟨by rfl, ?_⟩) ?_ ?_
      rotate_left
      ·intro w'
       go_simp
       with_reducible rfl
      rotate_left
      ·simp only [Act.put, sA, sZ, sS, i64_w, i32_w]
       rfl
      refine pure_ (i := 7) (N := some 92) (v := ?_) (a' := ?_) #[true, false, true, true, true, false, true, true, false, false, false, false, false, false, false, false, false] rfl rfl (any_of HT_.out (by kernel_rfl)) (fun _ _ _ h => h) (Or.inl ⟨by rfl, ?_⟩) ?_ ?_
      rotate_left
      ·intro w'
       go_simp
       with_reducible rfl
      rotate_left
      ·simp only [Act.put, sA, sZ, sS, i64_w, i32_w]
       rfl
      refine pure_ (i := 8) (N := some 93) (v := ?_) (a' := ?_) #[true, false, true, true, true, false, true, true, true, false, false, false, false, false, false, false, false] rfl rfl (any_of HT_.out (by kernel_rfl)) (fun _ _ _ h => h) (Or.inl ⟨by rfl, ?_⟩) ?_ ?_
      rotate_left
      ·intro w'
       go_simp
       with_reducible rfl
      rotate_left
      ·simp only [Act.put, sA, sZ, sS, i64_w, i32_w]
       rfl
      refine pure_ (i := 9) (N := some 94) (v := ?_) (a' := ?_) #[true, false, true, true, true, false, true, true, true, true, false, false, false, false, false, false, false] rfl rfl (any_of HT_.out (by kernel_rfl)) (fun _ _ _ h => h) (Or.inl ⟨by rfl, ?_⟩) ?_ ?_
      rotate_left
      ·intro w'
       go_simp
       with_reducible rfl
      rotate_left
      ·simp only [Act.put, sA, sZ, sS, i64_w, i32_w]
       rfl
      refine pure_ (i := 11) (N := some 96) (v := ?_) (a' := ?_) #[true, false, true, true, true, false, true, true, true, true, false, true, false, false, false, false, false] rfl rfl (any_of HT_.out (by kernel_rfl)) (fun _ _ _ h => h) (Or.inl ⟨by rfl, ?_⟩) ?_ ?_
      rotate_left
      ·intro w'
       go_simp
       with_reducible rfl
      rotate_left
      ·simp only [Act.put, sA, sZ, sS, i64_w, i32_w]
       rfl
      refine take_ (i := 1) (N := some 86) (v := ?_) (a' := ?_) #[true, true, true, true, true, false, true, true, true, true, false, true, false, false, false, false, false] rfl rfl (take_ofW HT_.out HW_.out (by kernel_rfl)) (fun _ _ _ h => h) (Or.inl ⟨by rfl, ?_⟩) hHeld ?_ ?_
      rotate_left
      ·rintro w' ⟨s0, s1, s2, s3, s4, s5⟩
       go_simp
       with_reducible rfl
      rotate_left
      ·simp only [Act.put, sA, sZ, sS, i64_w, i32_w]
       rfl
      refine take_ (i := 5) (N := some 90) (v := ?_) (a' := ?_) #[true, true, true, true, true, true, true, true, true, true, false, true, false, false, false, false, false] rfl rfl (take_ofW HT_.out HW_.out (by kernel_rfl)) (fun _ _ _ h => h) (Or.inl ⟨by rfl, ?_⟩) hHeld ?_ ?_
      rotate_left
      ·rintro w' ⟨s0, s1, s2, s3, s4, s5⟩
       go_simp
       with_reducible rfl
      rotate_left
      ·simp only [Act.put, sA, sZ, sS, i64_w, i32_w]
       rfl
      refine take_ (i := 10) (N := some 95) (v := ?_) (a' := ?_) #[true, true, true, true, true, true, true, true, true, true, true, true, false, false, false, false, false] rfl rfl (take_ofW HT_.out HW_.out (by kernel_rfl)) (fun _ _ _ h => h) (Or.inl ⟨by rfl, ?_⟩) hHeld ?_ ?_
      rotate_left
      ·rintro w' ⟨s0, s1, s2, s3, s4, s5⟩
       go_simp
       with_reducible rfl
      rotate_left
      ·simp only [Act.put, sA, sZ, sS, i64_w, i32_w]
       rfl
      refine pure_ (i := 12) (N := some 97) (v := ?_) (a' := ?_) #[true, true, true, true, true, true, true, true, true, true, true, true, true, false, false, false, false] rfl rfl (any_of HT_.out (by kernel_rfl)) (fun _ _ _ h => h) (Or.inl ⟨by rfl, ?_⟩) ?_ ?_
      rotate_left
      ·intro w'
       go_simp
       with_reducible rfl
      rotate_left
      ·simp only [Act.put, sA, sZ, sS, i64_w, i32_w]
       rfl
      refine one_ (i := 13) (N := some 98) #[true, true, true, true, true, true, true, true, true, true, true, true, true, true, false, false, false] rfl rfl (one_of HT_.out (by kernel_rfl)) (by decide) (fun K hK => ?_)
      refine value_ (w1 := ?_) (v := ?_) (by rfl) rfl ?_ ?_
      rotate_left 2
      ·go_simp
       constructor
       ·rfl
       ·rfl
      refine hK.out _ _ ⟨(zC (zA BK321.out _) 0).trans rfl, (zC (zA BK321.out _) 1).trans rfl, (zC (zA BK321.out _) 2).trans rfl, (zC (zA BK321.out _) 3).trans rfl, (World.cell?_alloc_lt _ _ _ (World.block_lt_of_cell? _ _ (hHeld.2.2.2.2.1))).trans (hHeld.2.2.2.2.1), (World.cell?_alloc_lt _ _ _ (World.block_lt_of_cell? _ _ (hHeld.2.2.2.2.2))).trans (hHeld.2.2.2.2.2)⟩ (fun hHeld => ?_)
      clear hK K
      refine norm_ (a' := ?_) ?_ ?_
      rotate_left
      ·show Act.put _ (some 98) _ = _
       simp only [Act.put, sA, sZ, sS, i64_w, i32_w]
       rfl
      refine last_ (i := 14) (N := some 99) #[true, true, true, true, true, true, true, true, true, true, true, true, true, true, true, false, false] rfl rfl (one_of HT_.out (by kernel_rfl)) (by decide) (fun K hK => ?_)
      refine Kd.R_append_step k48 (w0 := w) w.heap.size (by rfl) (.tmp 86) (.tmp 98) 31 48 (.agg #[(.int .i64 0), (.int .i64 0), (.int .i64 0)]) 24 rfl Tryz.underlying31 info48 rfl (by decide) (by omega) u322003 x322003_1 (⟨rd t322 x10_1, rd t322 (ji79), t331⟩ : S48) [.int .i64 (rd t322 x10_1), .int .i64 (rd t322 (ji79)), .int .i64 t331] (fun _ => True) (fun _ => False) rfl rfl ?aP (fun _ hk => hk.elim) ?aF ?aO ?aB ?aS ?aL ?_
      (case aP => exact k48_mkM _ _ _ (⟨rd t322 x10_1, rd t322 (ji79), t331⟩ : S48))
      (case aB => exact (by repeat (first | (with_reducible first | exact HB.out | apply yA | apply yN | apply yD | refine yS ?_ GE316.out | refine yS ?_ GE317.out | refine yS ?_ GE318.out | refine yS ?_ GE321.out) | exact HB.out)))
      (case aF => exact (fun _ _ => trivial))
      (case aO => exact (HO_322003.out))
      (case aS => exact (yZ (by repeat (first | (with_reducible first | exact HB.out | apply yA | apply yN | apply yD | refine yS ?_ GE316.out | refine yS ?_ GE317.out | refine yS ?_ GE318.out | refine yS ?_ GE321.out) | exact HB.out))))
      (case aL => have := LMc82.out; omega)
      intro v342 w84 ho hb hg hat
      rw [← Ny341.out] at ho
      have n0_ := aK (Kd.R_over' (HO_9.out) (Kd.R_typed (HO_322003.out)) (by decide) hg)
      have n1_ := aK (blk_grown (g := gb316) (o := .cells #[.string a0_0, .int .i64 a0_1, .int .i64 a0_2, .slice A0_3 l0_3.length c0_3] 33 (0, 0)) (BK316.out) hg (Kd.R_ne HO_322003.out BK316.out (by decide)))
      have n2_ := aK (blk_grown (g := gb317) (o := .cells #[.string a1_0, .int .i64 a1_1, .int .i64 a1_2, .slice A1_3 l1_3.length c1_3] 33 (0, 0)) (BK317.out) hg (Kd.R_ne HO_322003.out BK317.out (by decide)))
      have n3_ := aK (blk_grown (g := gb318) (o := .cells #[.string x319000_1, .int .i64 x319001_1, .int .i64 x319002_1, .slice none 0 0] 33 (0, 0)) (BK318.out) hg (Kd.R_ne HO_322003.out BK318.out (by decide)))
      have n4_ := aK (blk_grown (g := gb321) (o := .cells #[.string a0_0, .int .i64 a0_1, .int .i64 a0_2, u322003] 33 (0, 0)) (BK321.out) hg (Kd.R_ne HO_322003.out BK321.out (by decide)))
      have n5_ := aK (hb)
      have n6_ := aK (ho)
      clear HO_9
      clear BK316
      clear BK317
      clear BK318
      clear BK321
      clear HB
      clear HO_322003
      have HO_9 := n0_
      have BK316 := n1_
      have BK317 := n2_
      have BK318 := n3_
      have BK321 := n4_
      have HB := n5_
      have HO343 := n6_
      clear n0_ n1_ n2_ n3_ n4_ n5_ n6_
      clear ho hb hg hat
      obtain ⟨Ao85, co85, eo85⟩ := Kd.R_slice HO343.out
      (first | subst eo85 | (injection eo85 with f1_ f2_ f3_; have f4_ := f1_.symm; have f5_ := f3_.symm; clear f1_ f2_ f3_; subst f4_; subst f5_))
      refine hK.out _ _ ?_
      clear hK K
      refine norm_ (a' := ?_) ?_ ?_
      rotate_left
      ·show Act.put _ (some 99) _ = _
       simp only [Act.put, sA, sZ, sS, i64_w, i32_w]
       rfl
      refine pure_ (i := 15) (N := some 100) (v := ?_) (a' := ?_) #[true, true, true, true, true, true, true, true, true, true, true, true, true, true, true, true, false] rfl rfl (any_of HT_.out (by kernel_rfl)) (fun _ _ _ h => h) (Or.inl ⟨by rfl, ?_⟩) ?_ ?_
      rotate_left
      ·intro w'
       go_simp
       with_reducible rfl
      rotate_left
      ·simp only [Act.put, sA, sZ, sS, i64_w, i32_w]
       rfl
      refine last_ (i := 16) (N := none) #[true, true, true, true, true, true, true, true, true, true, true, true, true, true, true, true, true] rfl rfl (one_of HT_.out (by kernel_rfl)) (by decide) (fun K hK => ?_)
      have hs86 : w84.cell? ⟨gb321, 3, none⟩ = some (u322003) := (zC BK321.out 3).trans rfl
      have hfs86 := zF BK321.out 3
      have hns86_0 := NB316_321.out
      have hns86_1 := NB317_321.out
      have hns86_2 := NB318_321.out
      have hms86_0 := NB321_316.out
      have hms86_1 := NB321_317.out
      have hms86_2 := NB321_318.out
      refine skip_ (w1 := ?_) (by rfl) rfl ?_ ?_
      rotate_left
      ·go_simp
       rfl
      refine hK.out _ _ ?_
      clear hK K
      refine done_ (done_of HT_.out (by kernel_rfl)) ?_
      try go_wp2
      go_roundg kj51
      case measure => have := HK1.out; have := HJ51.out; omega
      case rel => exact ⟨(ji79), (x319000_1), (x319001_1), (x319002_1), (y341), (.slice Ao85 y341.length co85), (by first | rfl | (simp; done) | (simp only [← hji79] <;> (first | rfl | simp)) | (simp [*]; done)), H', ⟨by have := HK1.out; have := HJ51.out; omega⟩, ⟨by (with_reducible repeat (first | apply Kd.R_alloc | apply Kd.R_drewN | apply Kd.R_drew)); exact Kd.R_mono (Kd.R_far (p := ⟨gb321, 3, none⟩) (Kd.R_types HO_9.out BK321.out (by decide)) (fun _ hk => hk.2) (.slice Ao85 y341.length co85)) (fun _ hk => trivial)⟩, ⟨by (with_reducible repeat (first | apply Kd.R_alloc | apply Kd.R_drewN | apply Kd.R_drew)); exact Kd.R_mono (Kd.R_far (p := ⟨gb321, 3, none⟩) (Kd.R_types HO343.out BK321.out (by decide)) (fun _ hk => hk.2) (.slice Ao85 y341.length co85)) (fun _ hk => trivial)⟩, ⟨by refine blk_far ?_ NB316_321.out _; exact BK316.out⟩, ⟨by refine blk_far ?_ NB317_321.out _; exact BK317.out⟩, ⟨by refine blk_far ?_ NB318_321.out _; exact BK318.out⟩, ⟨by refine blk_put (cs := #[.string a0_0, .int .i64 a0_1, .int .i64 a0_2, u322003]) ?_ 3 _ rfl; exact BK321.out⟩, ⟨by repeat (first | (with_reducible first | exact HB.out | apply yA | apply yN | apply yD | refine yS ?_ GE316.out | refine yS ?_ GE317.out | refine yS ?_ GE318.out | refine yS ?_ GE321.out) | exact HB.out)⟩⟩
     rw [if_pos c65] at H
     have c65b0 : (t331 == 0) = true := beq_iff_eq.mpr c65
     have c65b1 : (t331 != 0) = false := bne_eq_false_iff_eq.mpr c65
     clear c65
     by_cases c66 : t333 = 0
     ·rw [if_pos c66] at H
      have c66b0 : (t333 == 0) = true := beq_iff_eq.mpr c66
      have c66b1 : (t333 != 0) = false := bne_eq_false_iff_eq.mpr c66
      clear c66
      have H' := aK H
      clear H
      go_wp2
      go_roundg kj51
      case measure => have := HK1.out; have := HJ51.out; omega
      case rel => exact ⟨(wrap64 (x10_1 + 1)), (x319000_1), (x319001_1), (x319002_1), (x322003_1), (u322003), (by first | rfl | (simp; done) | (simp [*]; done)), H', ⟨by have := HK1.out; have := HJ51.out; omega⟩, ⟨HO_9.out⟩, ⟨HO_322003.out⟩, ⟨BK316.out⟩, ⟨BK317.out⟩, ⟨BK318.out⟩, ⟨BK321.out⟩, ⟨HB.out⟩⟩
     rw [if_neg c66] at H
     have c66b0 : (t333 == 0) = false := beq_eq_false_iff_ne.mpr c66
     have c66b1 : (t333 != 0) = true := bne_iff_ne.mpr c66
     by_cases c67 : 0 ≤ x10_1
     rotate_left
     ·rw [if_neg c67] at H
      exact absurd H (by simp)
     rw [if_pos c67] at H
     have c67b0 : decide (0 ≤ x10_1) = true := decide_eq_true c67
     clear c67
     by_cases c68 : x10_1 < (t322.length : Int)
     rotate_left
     ·rw [if_neg c68] at H
      exact absurd H (by simp)
     rw [if_pos c68] at H
     have c68b0 : decide (x10_1 < (t322.length : Int)) = true := decide_eq_true c68
     clear c68
     obtain ⟨ji69, hji69⟩ : ∃ j_ : Int, (wrap64 (x10_1 + 1)) = j_ := ⟨_, rfl⟩
     (try (have hq_ : ji69 = ji45 := hji69.symm.trans hji45; subst hq_))
     replace H : (if 0 ≤ (ji69) then (if (ji69) < (t322.length : Int) then (if x322003_1.length < 5864062014805 then (gangsawref14_Merge.l0 kj51 t322 ji69 a0_0 a0_1 a0_2 l0_3 a1_0 a1_1 a1_2 l1_3 a0_0 a0_1 a0_2 (x322003_1 ++ [(⟨rd t322 x10_1, rd t322 (ji69), t333⟩ : S48)])) else (none)) else (none)) else (none)) = some (r1, r2, r3, r4, r5) := by first | (rw [hji69] at H; exact H) | (simp only [hji69] at H ⊢; exact H)
     (try rw [hji69] at c42b0)
     have hji69w : (IntKind.i64.wrap (x10_1 + 1)) = ji69 := (i64_w _).trans hji69
     by_cases c70 : 0 ≤ (ji69)
     rotate_left
     ·rw [if_neg c70] at H
      exact absurd H (by simp)
     rw [if_pos c70] at H
     have c70b0 : decide (0 ≤ (ji69)) = true := decide_eq_true c70
     clear c70
     by_cases c71 : (ji69) < (t322.length : Int)
     rotate_left
     ·rw [if_neg c71] at H
      exact absurd H (by simp)
     rw [if_pos c71] at H
     have c71b0 : decide ((ji69) < (t322.length : Int)) = true := decide_eq_true c71
     clear c71
     by_cases c72 : x322003_1.length < 5864062014805
     rotate_left
     ·rw [if_neg c72] at H
      exact absurd H (by simp)
     rw [if_pos c72] at H
     have LMc72 := aK c72
     clear c72
     obtain ⟨y336, hy336⟩ : ∃ y_ : List (S48), y_ = (x322003_1 ++ [(⟨rd t322 x10_1, rd t322 (ji69), t333⟩ : S48)]) := ⟨_, rfl⟩
     replace H : (gangsawref14_Merge.l0 kj51 t322 ji69 a0_0 a0_1 a0_2 l0_3 a1_0 a1_1 a1_2 l1_3 a0_0 a0_1 a0_2 y336) = some (r1, r2, r3, r4, r5) := by first | (rw [hy336]; with_reducible exact H) | (have H2_ := (Option.bind_some _ _).symm.trans H; rw [hy336]; with_reducible exact H2_) | (have H2_ := (Option.bind_some _ _).symm.trans H; with_reducible exact H2_) | with_reducible exact H | (rw [hy336]; exact H) | exact H
     have Ny336 := aK hy336
     clear hy336
     have H' := aK H
     clear H
     try go_wp2
     have n0_ := aK (Kd.R_drew HO_9.out)
     have n1_ := aK (Kd.R_drew HO_322003.out)
     have n2_ := aK (zD BK316.out)
     have n3_ := aK (zD BK317.out)
     have n4_ := aK (zD BK318.out)
     have n5_ := aK (zD BK321.out)
     have n6_ := aK (yD HB.out)
     clear HO_9
     clear HO_322003
     clear BK316
     clear BK317
     clear BK318
     clear BK321
     clear HB
     have HO_9 := n0_
     have HO_322003 := n1_
     have BK316 := n2_
     have BK317 := n3_
     have BK318 := n4_
     have BK321 := n5_
     have HB := n6_
     clear n0_ n1_ n2_ n3_ n4_ n5_ n6_
     have p334 : 0 ≤ (x10_1 : Int) := of_decide_eq_true (by assumption)
     have q334 : x10_1 < (t322.length : Int) := of_decide_eq_true (by assumption)
     obtain ⟨ad334, e334, hx334_0⟩ := Kd.at_int (Kd.R_reads' HO_9.out).2.2 x10_1 p334 q334
     obtain rfl : ad328 = ad334 := (by injection e334)
     replace p334 := eq_true p334
     replace q334 := eq_true q334
     have p335 : 0 ≤ ((ji69) : Int) := of_decide_eq_true (by assumption)
     have q335 : (ji69) < (t322.length : Int) := of_decide_eq_true (by assumption)
     obtain ⟨ad335, e335, hx335_0⟩ := Kd.at_int (Kd.R_reads' HO_9.out).2.2 (ji69) p335 q335
     obtain rfl : ad328 = ad335 := (by injection e335)
     replace p335 := eq_true p335
     replace q335 := eq_true q335
     refine start_ (n := 17) (S := fun w' => w'.cell? ⟨gb321, 0, none⟩ = some (.string a0_0) ∧ w'.cell? ⟨gb321, 1, none⟩ = some (.int .i64 a0_1) ∧ w'.cell? ⟨gb321, 2, none⟩ = some (.int .i64 a0_2) ∧ w'.cell? ⟨gb321, 3, none⟩ = some (u322003) ∧ w'.cell? (ad328.add (x10_1).toNat) = some (.int .i64 (rd t322 x10_1)) ∧ w'.cell? (ad328.add ((ji69)).toNat) = some (.int .i64 (rd t322 (ji69)))) (ds := [14, 16]) #[false, false, false, false, false, false, false, false, false, false, false, false, false, false, false, false, false] (by kernel_rfl) rfl rfl ⟨(zC BK321.out 0).trans rfl, (zC BK321.out 1).trans rfl, (zC BK321.out 2).trans rfl, (zC BK321.out 3).trans rfl, hx334_0, hx335_0⟩ (fun hHeld => ?_); refine with_tabW gangsawref14_Merge.tab21 gangsawref14_Merge.bits21 (fun HT_ HW_ => ?_)
     generalize wc.drew = w73 at HO_9 HO_322003 BK316 BK317 BK318 BK321 HB hx334_0 hx335_0 hHeld ⊢
     refine pure_ (i := 0) (N := some 85) (v := ?_) (a' := ?_) #[true, false, false, false, false, false, false, false, false, false, false, false, false, false, false, false, false] rfl rfl (any_of HT_.out (by kernel_rfl)) (fun _ _ _ h => h) (Or.inl ⟨by rfl, ?_⟩) ?_ ?_
     rotate_left
     ·intro w'
      go_simp
      with_reducible rfl
     rotate_left
     ·simp only [Act.put, sA, sZ, sS, i64_w, i32_w]
      rfl
     refine pure_ (i := 2) (N := some 87) (v := ?_) (a' := ?_) #[true, false, true, false, false, false, false, false, false, false, false, false, false, false, false, false, false] rfl rfl (any_of HT_.out (by kernel_rfl)) (fun _ _ _ h => h) (Or.inl ⟨by rfl, ?_⟩) ?_ ?_
     rotate_left
     ·intro w'
      go_simp
      with_reducible rfl
     rotate_left
     ·simp only [Act.put, sA, sZ, sS, i64_w, i32_w]
      rfl
     refine pure_ (i := 3) (N := some 88) (v := ?_) (a' := ?_) #[true, false, true, true, false, false, false, false, false, false, false, false, false, false, false, false, false] rfl rfl (any_of HT_.out (by kernel_rfl)) (fun _ _ _ h => h) (Or.inl ⟨by rfl, ?_⟩) ?_ ?_
     rotate_left
     ·intro w'
      go_simp
      with_reducible rfl
     rotate_left
     ·simp only [Act.put, sA, sZ, sS, i64_w, i32_w]
      rfl
     refine pure_ (i := 4) (N := some 89) (v := ?_) (a' := ?_) #[true, false, true, true, true, false, false, false, false, false, false, false, false, false, false, false, false] rfl rfl (any_of HT_.out (by kernel_rfl)) (fun _ _ _ h => h) (Or.inl ⟨by rfl, ?_⟩) ?_ ?_
     rotate_left
     ·intro w'
      go_simp
      with_reducible rfl
     rotate_left
     ·simp only [Act.put, sA, sZ, sS, i64_w, i32_w]
      rfl
     refine pure_ (i := 6) (N := some 91) (v := ?_) (a' := ?_) #[true, false, true, true, true, false, true, false, false, false, false, false, false, false, false, false, false] rfl rfl (any_of HT_.out (by kernel_rfl)) (fun _ _ _ h => h) (Or.inl ⟨by rfl, ?_⟩) ?_ ?_
     rotate_left
     ·intro w'
      go_simp
      with_reducible rfl
     rotate_left
     ·simp only [Act.put, sA, sZ, sS, i64_w, i32_w]
      rfl
     refine pure_ (i := 7) (N := some 92) (v := ?_) (a' := ?_) #[true, false, true, true, true, false, true, true, false, false, false, false, false, false, false, false, false] rfl rfl (any_of HT_.out (by kernel_rfl)) (fun _ _ _ h => h) (Or.inl ⟨by rfl, ?_⟩) ?_ ?_
     rotate_left
     ·intro w'
      go_simp
      with_reducible rfl
     rotate_left
     ·simp only [Act.put, sA, sZ, sS, i64_w, i32_w]
      rfl
     refine pure_ (i := 8) (N := some 93) (v := ?_) (a' := ?_) #[true, false, true, true, true, false, true, true, true, false, false, false, false, false, false, false, false] rfl rfl (any_of HT_.out (by kernel_rfl)) (fun _ _ _ h => h) (Or.inl ⟨by rfl, ?_⟩) ?_ ?_
     rotate_left
     ·intro w'
      go_simp
      with_reducible rfl
     rotate_left
     ·simp only [Act.put, sA, sZ, sS, i64_w, i32_w]
      rfl
     refine pure_ (i := 9) (N := some 94) (v := ?_) (a' := ?_) #[true, false, true, true, true, false, true, true, true, true, false, false, false, false, false, false, false] rfl rfl (any_of HT_.out (by kernel_rfl)) (fun _ _ _ h => h) (Or.inl ⟨by rfl, ?_⟩) ?_ ?_
     rotate_left
     ·intro w'
      go_simp
      with_reducible rfl
     rotate_left
     ·simp only [Act.put, sA, sZ, sS, i64_w, i32_w]
      rfl
     refine pure_ (i := 11) (N := some 96) (v := ?_) (a' := ?_) #[true, false, true, true, true, false, true, true, true, true, false, true, false, false, false, false, false] rfl rfl (any_of HT_.out (by kernel_rfl)) (fun _ _ _ h => h) (Or.inl ⟨by rfl, ?_⟩) ?_ ?_
     rotate_left
     ·intro w'
      go_simp
      with_reducible rfl
     rotate_left
     ·simp only [Act.put, sA, sZ, sS, i64_w, i32_w]
      rfl
     refine take_ (i := 1) (N := some 86) (v := ?_) (a' := ?_) #[true, true, true, true, true, false, true, true, true, true, false, true, false, false, false, false, false] rfl rfl (take_ofW HT_.out HW_.out (by kernel_rfl)) (fun _ _ _ h => h) (Or.inl ⟨by rfl, ?_⟩) hHeld ?_ ?_
     rotate_left
     ·rintro w' ⟨s0, s1, s2, s3, s4, s5⟩
      go_simp
      with_reducible rfl
     rotate_left
     ·simp only [Act.put, sA, sZ, sS, i64_w, i32_w]
      rfl
     refine take_ (i := 5) (N := some 90) (v := ?_) (a' := ?_) #[true, true, true, true, true, true, true, true, true, true, false, true, false, false, false, false, false] rfl rfl (take_ofW HT_.out HW_.out (by kernel_rfl)) (fun _ _ _ h => h) (Or.inl ⟨by rfl, ?_⟩) hHeld ?_ ?_
     rotate_left
     ·rintro w' ⟨s0, s1, s2, s3, s4, s5⟩
      go_simp
      with_reducible rfl
     rotate_left
     ·simp only [Act.put, sA, sZ, sS, i64_w, i32_w]
      rfl
     refine take_ (i := 10) (N := some 95) (v := ?_) (a' := ?_) #[true, true, true, true, true, true, true, true, true, true, true, true, false, false, false, false, false] rfl rfl (take_ofW HT_.out HW_.out (by kernel_rfl)) (fun _ _ _ h => h) (Or.inl ⟨by rfl, ?_⟩) hHeld ?_ ?_
     rotate_left
     ·rintro w' ⟨s0, s1, s2, s3, s4, s5⟩
      go_simp
      with_reducible rfl
     rotate_left
     ·simp only [Act.put, sA, sZ, sS, i64_w, i32_w]
      rfl
     refine pure_ (i := 12) (N := some 97) (v := ?_) (a' := ?_) #[true, true, true, true, true, true, true, true, true, true, true, true, true, false, false, false, false] rfl rfl (any_of HT_.out (by kernel_rfl)) (fun _ _ _ h => h) (Or.inl ⟨by rfl, ?_⟩) ?_ ?_
     rotate_left
     ·intro w'
      go_simp
      with_reducible rfl
     rotate_left
     ·simp only [Act.put, sA, sZ, sS, i64_w, i32_w]
      rfl
     refine one_ (i := 13) (N := some 98) #[true, true, true, true, true, true, true, true, true, true, true, true, true, true, false, false, false] rfl rfl (one_of HT_.out (by kernel_rfl)) (by decide) (fun K hK => ?_)
     refine value_ (w1 := ?_) (v := ?_) (by rfl) rfl ?_ ?_
     rotate_left 2
     ·go_simp
      constructor
      ·rfl
      ·rfl
     refine hK.out _ _ ⟨(zC (zA BK321.out _) 0).trans rfl, (zC (zA BK321.out _) 1).trans rfl, (zC (zA BK321.out _) 2).trans rfl, (zC (zA BK321.out _) 3).trans rfl, (World.cell?_alloc_lt _ _ _ (World.block_lt_of_cell? _ _ (hHeld.2.2.2.2.1))).trans (hHeld.2.2.2.2.1), (World.cell?_alloc_lt _ _ _ (World.block_lt_of_cell? _ _ (hHeld.2.2.2.2.2))).trans (hHeld.2.2.2.2.2)⟩ (fun hHeld => ?_)
     clear hK K
     refine norm_ (a' := ?_) ?_ ?_
     rotate_left
     ·show Act.put _ (some 98) _ = _
      simp only [Act.put, sA, sZ, sS, i64_w, i32_w]
      rfl
     refine last_ (i := 14) (N := some 99) #[true, true, true, true, true, true, true, true, true, true, true, true, true, true, true, false, false] rfl rfl (one_of HT_.out (by kernel_rfl)) (by decide) (fun K hK => ?_)
     refine Kd.R_append_step k48 (w0 := w) w.heap.size (by rfl) (.tmp 86) (.tmp 98) 31 48 (.agg #[(.int .i64 0), (.int .i64 0), (.int .i64 0)]) 24 rfl Tryz.underlying31 info48 rfl (by decide) (by omega) u322003 x322003_1 (⟨rd t322 x10_1, rd t322 (ji69), t333⟩ : S48) [.int .i64 (rd t322 x10_1), .int .i64 (rd t322 (ji69)), .int .i64 t333] (fun _ => True) (fun _ => False) rfl rfl ?aP (fun _ hk => hk.elim) ?aF ?aO ?aB ?aS ?aL ?_
     (case aP => exact k48_mkM _ _ _ (⟨rd t322 x10_1, rd t322 (ji69), t333⟩ : S48))
     (case aB => exact (by repeat (first | (with_reducible first | exact HB.out | apply yA | apply yN | apply yD | refine yS ?_ GE316.out | refine yS ?_ GE317.out | refine yS ?_ GE318.out | refine yS ?_ GE321.out) | exact HB.out)))
     (case aF => exact (fun _ _ => trivial))
     (case aO => exact (HO_322003.out))
     (case aS => exact (yZ (by repeat (first | (with_reducible first | exact HB.out | apply yA | apply yN | apply yD | refine yS ?_ GE316.out | refine yS ?_ GE317.out | refine yS ?_ GE318.out | refine yS ?_ GE321.out) | exact HB.out))))
     (case aL => have := LMc72.out; omega)
     intro v337 w74 ho hb hg hat
     rw [← Ny336.out] at ho
     have n0_ := aK (Kd.R_over' (HO_9.out) (Kd.R_typed (HO_322003.out)) (by decide) hg)
     have n1_ := aK (blk_grown (g := gb316) (o := .cells #[.string a0_0, .int .i64 a0_1, .int .i64 a0_2, .slice A0_3 l0_3.length c0_3] 33 (0, 0)) (BK316.out) hg (Kd.R_ne HO_322003.out BK316.out (by decide)))
     have n2_ := aK (blk_grown (g := gb317) (o := .cells #[.string a1_0, .int .i64 a1_1, .int .i64 a1_2, .slice A1_3 l1_3.length c1_3] 33 (0, 0)) (BK317.out) hg (Kd.R_ne HO_322003.out BK317.out (by decide)))
     have n3_ := aK (blk_grown (g := gb318) (o := .cells #[.string x319000_1, .int .i64 x319001_1, .int .i64 x319002_1, .slice none 0 0] 33 (0, 0)) (BK318.out) hg (Kd.R_ne HO_322003.out BK318.out (by decide)))
     have n4_ := aK (blk_grown (g := gb321) (o := .cells #[.string a0_0, .int .i64 a0_1, .int .i64 a0_2, u322003] 33 (0, 0)) (BK321.out) hg (Kd.R_ne HO_322003.out BK321.out (by decide)))
     have n5_ := aK (hb)
     have n6_ := aK (ho)
     clear HO_9
     clear BK316
     clear BK317
     clear BK318
     clear BK321
     clear HB
     clear HO_322003
     have HO_9 := n0_
     have BK316 := n1_
     have BK317 := n2_
     have BK318 := n3_
     have BK321 := n4_
     have HB := n5_
     have HO338 := n6_
     clear n0_ n1_ n2_ n3_ n4_ n5_ n6_
     clear ho hb hg hat
     obtain ⟨Ao75, co75, eo75⟩ := Kd.R_slice HO338.out
     (first | subst eo75 | (injection eo75 with f1_ f2_ f3_; have f4_ := f1_.symm; have f5_ := f3_.symm; clear f1_ f2_ f3_; subst f4_; subst f5_))
     refine hK.out _ _ ?_
     clear hK K
     refine norm_ (a' := ?_) ?_ ?_
     rotate_left
     ·show Act.put _ (some 99) _ = _
      simp only [Act.put, sA, sZ, sS, i64_w, i32_w]
      rfl
     refine pure_ (i := 15) (N := some 100) (v := ?_) (a' := ?_) #[true, true, true, true, true, true, true, true, true, true, true, true, true, true, true, true, false] rfl rfl (any_of HT_.out (by kernel_rfl)) (fun _ _ _ h => h) (Or.inl ⟨by rfl, ?_⟩) ?_ ?_
     rotate_left
     ·intro w'
      go_simp
      with_reducible rfl
     rotate_left
     ·simp only [Act.put, sA, sZ, sS, i64_w, i32_w]
      rfl
     refine last_ (i := 16) (N := none) #[true, true, true, true, true, true, true, true, true, true, true, true, true, true, true, true, true] rfl rfl (one_of HT_.out (by kernel_rfl)) (by decide) (fun K hK => ?_)
     have hs76 : w74.cell? ⟨gb321, 3, none⟩ = some (u322003) := (zC BK321.out 3).trans rfl
     have hfs76 := zF BK321.out 3
     have hns76_0 := NB316_321.out
     have hns76_1 := NB317_321.out
     have hns76_2 := NB318_321.out
     have hms76_0 := NB321_316.out
     have hms76_1 := NB321_317.out
     have hms76_2 := NB321_318.out
     refine skip_ (w1 := ?_) (by rfl) rfl ?_ ?_
     rotate_left
     ·go_simp
      rfl
     refine hK.out _ _ ?_
     clear hK K
     refine done_ (done_of HT_.out (by kernel_rfl)) ?_
     try go_wp2
     go_roundg kj51
     case measure => have := HK1.out; have := HJ51.out; omega
     case rel => exact ⟨(ji69), (x319000_1), (x319001_1), (x319002_1), (y336), (.slice Ao75 y336.length co75), (by first | rfl | (simp; done) | (simp only [← hji69] <;> (first | rfl | simp)) | (simp [*]; done)), H', ⟨by have := HK1.out; have := HJ51.out; omega⟩, ⟨by (with_reducible repeat (first | apply Kd.R_alloc | apply Kd.R_drewN | apply Kd.R_drew)); exact Kd.R_mono (Kd.R_far (p := ⟨gb321, 3, none⟩) (Kd.R_types HO_9.out BK321.out (by decide)) (fun _ hk => hk.2) (.slice Ao75 y336.length co75)) (fun _ hk => trivial)⟩, ⟨by (with_reducible repeat (first | apply Kd.R_alloc | apply Kd.R_drewN | apply Kd.R_drew)); exact Kd.R_mono (Kd.R_far (p := ⟨gb321, 3, none⟩) (Kd.R_types HO338.out BK321.out (by decide)) (fun _ hk => hk.2) (.slice Ao75 y336.length co75)) (fun _ hk => trivial)⟩, ⟨by refine blk_far ?_ NB316_321.out _; exact BK316.out⟩, ⟨by refine blk_far ?_ NB317_321.out _; exact BK317.out⟩, ⟨by refine blk_far ?_ NB318_321.out _; exact BK318.out⟩, ⟨by refine blk_put (cs := #[.string a0_0, .int .i64 a0_1, .int .i64 a0_2, u322003]) ?_ 3 _ rfl; exact BK321.out⟩, ⟨by repeat (first | (with_reducible first | exact HB.out | apply yA | apply yN | apply yD | refine yS ?_ GE316.out | refine yS ?_ GE317.out | refine yS ?_ GE318.out | refine yS ?_ GE321.out) | exact HB.out)⟩⟩

end Go.Proofs.YtfedmcehkpfciaaGreat.P
