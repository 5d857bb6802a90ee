/- What functions of the program return: each contract says so of one function, for every input at which its pure function yields. -/
import Derived.Test.YtfedmcehkpfciaaGreatPx0
import Derived.Test.YtfedmcehkpfciaaGreatPx1
import Derived.Test.YtfedmcehkpfciaaGreatPx13
import Derived.Test.YtfedmcehkpfciaaGreatPx18
import Derived.Test.YtfedmcehkpfciaaGreatPx22
import Derived.Test.YtfedmcehkpfciaaGreatSort
import Derived.Test.YtfedmcehkpfciaaGreatSym
namespace Go.Proofs.YtfedmcehkpfciaaGreat.P
open Go.RowKit Go.Proofs.YtfedmcehkpfciaaGreatW.PrintWords Go.Proofs.YtfedmcehkpfciaaGreatW.PrintLast Go.Proofs.YtfedmcehkpfciaaGreatW.PrintMore
attribute [local go_sem] max2_int min2_int max_two min_two max_three min_three max_four min_four   -- for this text's walks alone
set_option linter.unusedVariables false
set_option linter.unusedSimpArgs false

open Go.Proofs.YtfedmcehkpfciaaGreat.Sort Go.Proofs.YtfedmcehkpfciaaGreat.Sym
attribute [local go_sem high] eqA30
mutual
def boring_Merge.l0 : Nat → List (S33) → Int → Int → ByteArray → Int → Int → List (S48) → ByteArray → Int → Int → List (S48) → Option (ByteArray × Int × Int × (List (S48)) × Int)
 | 0, _, _, _, _, _, _, _, _, _, _, _ => none
 | k + 1, x18, x19, x20, x420000, x420001, x420002, x420003, x421000, x421001, x421002, x421003 => if x20 < x19 then (if 0 ≤ x20 then (if x20 < (x18.length : Int) then ((boring_formed.f ((rd_T33 x18 x20).f0) ((rd_T33 x18 x20).f1.f0) ((rd_T33 x18 x20).f1.f1) ((rd_T33 x18 x20).f2)).bind fun t427 => (if t427 = 0 then (boring_Merge.l0 k x18 x19 (wrap64 (x20 + 1)) x420000 x420001 x420002 x420003 x421000 x421001 x421002 x421003) else (some ((⟨#[]⟩ : ByteArray), 0, 0, ([] : List (S48)), t427)))) else (none)) else (none)) else (if (!(x420001 == x421001) || (!(x420002 == x421002))) = true then (some ((⟨#[]⟩ : ByteArray), 0, 0, ([] : List (S48)), 10)) else ((api_Log_56.f k (([x420003, x421003] : List (List (S48))))).bind fun t431 => (boring_Merge.l1 k ([] : List Int) t431 (t431.length : Int) 0 x420000 x420001 x420002 x420003 x421000 x421001 x421002 x421003)))
def boring_Merge.l1 : Nat → List Int → List (S48) → Int → Int → ByteArray → Int → Int → List (S48) → ByteArray → Int → Int → List (S48) → Option (ByteArray × Int × Int × (List (S48)) × Int)
 | 0, _, _, _, _, _, _, _, _, _, _, _, _ => none
 | k + 1, x9, x42, x43, x44, x420000, x420001, x420002, x420003, x421000, x421001, x421002, x421003 => if x44 < x43 then (if 0 ≤ x44 then (if x44 < (x42.length : Int) then ((some (([(rd_T48 x42 x44).f0, (rd_T48 x42 x44).f1] : List Int) : List Int)).bind fun y436 => (if x9.length + y436.length < 17592186044416 then (boring_Merge.l1 k (x9 ++ y436) x42 x43 (wrap64 (x44 + 1)) x420000 x420001 x420002 x420003 x421000 x421001 x421002 x421003) else (none))) else (none)) else (none)) else ((slices_Sort_int.f x9).bind fun t442 => ((slices_Compact_int.f t442).bind fun t443 => (boring_Merge.l2 k t443 ([] : List (S48)) 1 x420000 x420001 x420002 x420003 x421000 x421001 x421002 x421003)))
def boring_Merge.l2 : Nat → List Int → List (S48) → Int → ByteArray → Int → Int → List (S48) → ByteArray → Int → Int → List (S48) → Option (ByteArray × Int × Int × (List (S48)) × Int)
 | 0, _, _, _, _, _, _, _, _, _, _, _ => none
 | k + 1, x9, x12, x13, x420000, x420001, x420002, x420003, x421000, x421001, x421002, x421003 => if x13 < (x9.length : Int) then (if 0 ≤ (wrap64 (x13 - 1)) then (if (wrap64 (x13 - 1)) < (x9.length : Int) then ((boring_State.f k x420000 x420001 x420002 x420003 (rd x9 (wrap64 (x13 - 1)))).bind fun t450 => ((boring_State.f k x421000 x421001 x421002 x421003 (rd x9 (wrap64 (x13 - 1)))).bind fun t452 => (if t450 = 0 then (boring_Merge.j3 k x9 x12 x13 t450 t452 false x420000 x420001 x420002 x420003 x421000 x421001 x421002 x421003) else (if t452 = 0 then (boring_Merge.j3 k x9 x12 x13 t450 t452 false x420000 x420001 x420002 x420003 x421000 x421001 x421002 x421003) else (boring_Merge.j3 k x9 x12 x13 t450 t452 (t450 != t452) x420000 x420001 x420002 x420003 x421000 x421001 x421002 x421003))))) else (none)) else (none)) else ((boring_joined.f k x12).bind fun t446 => (some (x420000, x420001, x420002, t446, 0)))
def boring_Merge.j3 : Nat → List Int → List (S48) → Int → Int → Int → Bool → ByteArray → Int → Int → List (S48) → ByteArray → Int → Int → List (S48) → Option (ByteArray × Int × Int × (List (S48)) × Int)
 | 0, _, _, _, _, _, _, _, _, _, _, _, _, _, _ => none
 | k + 1, x9, x12, x13, x14, x15, x90, x420000, x420001, x420002, x420003, x421000, x421001, x421002, x421003 => if x90 = true then (some ((⟨#[]⟩ : ByteArray), 0, 0, ([] : List (S48)), 10)) else (if (mx x14 x15) = 0 then (boring_Merge.l2 k x9 x12 (wrap64 (x13 + 1)) x420000 x420001 x420002 x420003 x421000 x421001 x421002 x421003) else (if 0 ≤ (wrap64 (x13 - 1)) then (if (wrap64 (x13 - 1)) < (x9.length : Int) then (if 0 ≤ x13 then (if x13 < (x9.length : Int) then (if x12.length < 5864062014805 then (boring_Merge.l2 k x9 (x12 ++ [(⟨rd x9 (wrap64 (x13 - 1)), rd x9 x13, mx x14 x15⟩ : S48)]) (wrap64 (x13 + 1)) x420000 x420001 x420002 x420003 x421000 x421001 x421002 x421003) else (none)) else (none)) else (none)) else (none)) else (none)))
end
def boring_Merge.f (k : Nat) (a0_0 : ByteArray) (a0_1 : Int) (a0_2 : Int) (l0_3 : List (S48)) (a1_0 : ByteArray) (a1_1 : Int) (a1_2 : Int) (l1_3 : List (S48)) : Option (ByteArray × Int × Int × (List (S48)) × Int) := (some (([(⟨a0_0, (⟨a0_1, a0_2⟩ : S30), l0_3⟩ : S33), (⟨a1_0, (⟨a1_1, a1_2⟩ : S30), l1_3⟩ : S33)] : List (S33)) : List (S33))).bind fun y422 => (boring_Merge.l0 k y422 (y422.length : Int) 0 a0_0 a0_1 a0_2 l0_3 a1_0 a1_1 a1_2 l1_3)
theorem boring_Merge.mono_l : ∀ k, (∀ y0 y1 y2 y3 y4 y5 y6 y7 y8 y9 y10, LeO (boring_Merge.l0 k y0 y1 y2 y3 y4 y5 y6 y7 y8 y9 y10) (boring_Merge.l0 (k + 1) y0 y1 y2 y3 y4 y5 y6 y7 y8 y9 y10)) ∧ (∀ y0 y1 y2 y3 y4 y5 y6 y7 y8 y9 y10 y11, LeO (boring_Merge.l1 k y0 y1 y2 y3 y4 y5 y6 y7 y8 y9 y10 y11) (boring_Merge.l1 (k + 1) y0 y1 y2 y3 y4 y5 y6 y7 y8 y9 y10 y11)) ∧ (∀ y0 y1 y2 y3 y4 y5 y6 y7 y8 y9 y10, LeO (boring_Merge.l2 k y0 y1 y2 y3 y4 y5 y6 y7 y8 y9 y10) (boring_Merge.l2 (k + 1) y0 y1 y2 y3 y4 y5 y6 y7 y8 y9 y10)) ∧ (∀ y0 y1 y2 y3 y4 y5 y6 y7 y8 y9 y10 y11 y12 y13, LeO (boring_Merge.j3 k y0 y1 y2 y3 y4 y5 y6 y7 y8 y9 y10 y11 y12 y13) (boring_Merge.j3 (k + 1) y0 y1 y2 y3 y4 y5 y6 y7 y8 y9 y10 y11 y12 y13))
 | 0 => ⟨fun _ _ _ _ _ _ _ _ _ _ _ r h => by simp [boring_Merge.l0] at h, fun _ _ _ _ _ _ _ _ _ _ _ _ r h => by simp [boring_Merge.l1] at h, fun _ _ _ _ _ _ _ _ _ _ _ r h => by simp [boring_Merge.l2] at h, fun _ _ _ _ _ _ _ _ _ _ _ _ _ _ r h => by simp [boring_Merge.j3] at h⟩
 | k + 1 => by
  obtain ⟨ih0, ih1, ih2, ih3⟩ := boring_Merge.mono_l k
  refine ⟨?_, ?_, ?_, ?_⟩
  ·intro y0 y1 y2 y3 y4 y5 y6 y7 y8 y9 y10
   unfold boring_Merge.l0
   repeat' first
   | (with_reducible exact ih0 _ _ _ _ _ _ _ _ _ _ _)
   | (with_reducible exact ih1 _ _ _ _ _ _ _ _ _ _ _ _)
   | (with_reducible exact ih2 _ _ _ _ _ _ _ _ _ _ _)
   | (with_reducible exact ih3 _ _ _ _ _ _ _ _ _ _ _ _ _ _)
   | (with_reducible exact api_Log_56.mono _ _)
   | (with_reducible exact boring_State.mono _ _ _ _ _ _)
   | (with_reducible exact boring_joined.mono _ _)
   | (with_reducible exact LeO.refl _)
   | (with_reducible exact LeO.none _)
   | (with_reducible refine LeO.ite ?_ ?_)
   | (with_reducible refine LeO.bind ?_ (fun _ => ?_))
   | exact ih0 _ _ _ _ _ _ _ _ _ _ _
   | exact ih1 _ _ _ _ _ _ _ _ _ _ _ _
   | exact ih2 _ _ _ _ _ _ _ _ _ _ _
   | exact ih3 _ _ _ _ _ _ _ _ _ _ _ _ _ _
   | exact api_Log_56.mono _ _
   | exact boring_State.mono _ _ _ _ _ _
   | exact boring_joined.mono _ _
   | exact LeO.none _
   | refine LeO.ite ?_ ?_
   | refine LeO.bind ?_ (fun _ => ?_)
  ·intro y0 y1 y2 y3 y4 y5 y6 y7 y8 y9 y10 y11
   unfold boring_Merge.l1
   repeat' first
   | (with_reducible exact ih0 _ _ _ _ _ _ _ _ _ _ _)
   | (with_reducible exact ih1 _ _ _ _ _ _ _ _ _ _ _ _)
   | (with_reducible exact ih2 _ _ _ _ _ _ _ _ _ _ _)
   | (with_reducible exact ih3 _ _ _ _ _ _ _ _ _ _ _ _ _ _)
   | (with_reducible exact api_Log_56.mono _ _)
   | (with_reducible exact boring_State.mono _ _ _ _ _ _)
   | (with_reducible exact boring_joined.mono _ _)
   | (with_reducible exact LeO.refl _)
   | (with_reducible exact LeO.none _)
   | (with_reducible refine LeO.ite ?_ ?_)
   | (with_reducible refine LeO.bind ?_ (fun _ => ?_))
   | exact ih0 _ _ _ _ _ _ _ _ _ _ _
   | exact ih1 _ _ _ _ _ _ _ _ _ _ _ _
   | exact ih2 _ _ _ _ _ _ _ _ _ _ _
   | exact ih3 _ _ _ _ _ _ _ _ _ _ _ _ _ _
   | exact api_Log_56.mono _ _
   | exact boring_State.mono _ _ _ _ _ _
   | exact boring_joined.mono _ _
   | exact LeO.none _
   | refine LeO.ite ?_ ?_
   | refine LeO.bind ?_ (fun _ => ?_)
  ·intro y0 y1 y2 y3 y4 y5 y6 y7 y8 y9 y10
   unfold boring_Merge.l2
   repeat' first
   | (with_reducible exact ih0 _ _ _ _ _ _ _ _ _ _ _)
   | (with_reducible exact ih1 _ _ _ _ _ _ _ _ _ _ _ _)
   | (with_reducible exact ih2 _ _ _ _ _ _ _ _ _ _ _)
   | (with_reducible exact ih3 _ _ _ _ _ _ _ _ _ _ _ _ _ _)
   | (with_reducible exact api_Log_56.mono _ _)
   | (with_reducible exact boring_State.mono _ _ _ _ _ _)
   | (with_reducible exact boring_joined.mono _ _)
   | (with_reducible exact LeO.refl _)
   | (with_reducible exact LeO.none _)
   | (with_reducible refine LeO.ite ?_ ?_)
   | (with_reducible refine LeO.bind ?_ (fun _ => ?_))
   | exact ih0 _ _ _ _ _ _ _ _ _ _ _
   | exact ih1 _ _ _ _ _ _ _ _ _ _ _ _
   | exact ih2 _ _ _ _ _ _ _ _ _ _ _
   | exact ih3 _ _ _ _ _ _ _ _ _ _ _ _ _ _
   | exact api_Log_56.mono _ _
   | exact boring_State.mono _ _ _ _ _ _
   | exact boring_joined.mono _ _
   | exact LeO.none _
   | refine LeO.ite ?_ ?_
   | refine LeO.bind ?_ (fun _ => ?_)
  ·intro y0 y1 y2 y3 y4 y5 y6 y7 y8 y9 y10 y11 y12 y13
   unfold boring_Merge.j3
   repeat' first
   | (with_reducible exact ih0 _ _ _ _ _ _ _ _ _ _ _)
   | (with_reducible exact ih1 _ _ _ _ _ _ _ _ _ _ _ _)
   | (with_reducible exact ih2 _ _ _ _ _ _ _ _ _ _ _)
   | (with_reducible exact ih3 _ _ _ _ _ _ _ _ _ _ _ _ _ _)
   | (with_reducible exact api_Log_56.mono _ _)
   | (with_reducible exact boring_State.mono _ _ _ _ _ _)
   | (with_reducible exact boring_joined.mono _ _)
   | (with_reducible exact LeO.refl _)
   | (with_reducible exact LeO.none _)
   | (with_reducible refine LeO.ite ?_ ?_)
   | (with_reducible refine LeO.bind ?_ (fun _ => ?_))
   | exact ih0 _ _ _ _ _ _ _ _ _ _ _
   | exact ih1 _ _ _ _ _ _ _ _ _ _ _ _
   | exact ih2 _ _ _ _ _ _ _ _ _ _ _
   | exact ih3 _ _ _ _ _ _ _ _ _ _ _ _ _ _
   | exact api_Log_56.mono _ _
   | exact boring_State.mono _ _ _ _ _ _
   | exact boring_joined.mono _ _
   | exact LeO.none _
   | refine LeO.ite ?_ ?_
   | refine LeO.bind ?_ (fun _ => ?_)
theorem boring_Merge.mono : ∀ a0 a1 a2 a3 a4 a5 a6 a7 k, LeO (boring_Merge.f k a0 a1 a2 a3 a4 a5 a6 a7) (boring_Merge.f (k + 1) a0 a1 a2 a3 a4 a5 a6 a7) := by
 intro a0 a1 a2 a3 a4 a5 a6 a7 k
 obtain ⟨ih0, ih1, ih2, ih3⟩ := boring_Merge.mono_l k
 unfold boring_Merge.f
 repeat' first
   | (with_reducible exact ih0 _ _ _ _ _ _ _ _ _ _ _)
   | (with_reducible exact ih1 _ _ _ _ _ _ _ _ _ _ _ _)
   | (with_reducible exact ih2 _ _ _ _ _ _ _ _ _ _ _)
   | (with_reducible exact ih3 _ _ _ _ _ _ _ _ _ _ _ _ _ _)
   | (with_reducible exact api_Log_56.mono _ _)
   | (with_reducible exact boring_State.mono _ _ _ _ _ _)
   | (with_reducible exact boring_joined.mono _ _)
   | (with_reducible exact LeO.refl _)
   | (with_reducible exact LeO.none _)
   | (with_reducible refine LeO.ite ?_ ?_)
   | (with_reducible refine LeO.bind ?_ (fun _ => ?_))
   | exact ih0 _ _ _ _ _ _ _ _ _ _ _
   | exact ih1 _ _ _ _ _ _ _ _ _ _ _ _
   | exact ih2 _ _ _ _ _ _ _ _ _ _ _
   | exact ih3 _ _ _ _ _ _ _ _ _ _ _ _ _ _
   | exact api_Log_56.mono _ _
   | exact boring_State.mono _ _ _ _ _ _
   | exact boring_joined.mono _ _
   | exact LeO.none _
   | refine LeO.ite ?_ ?_
   | refine LeO.bind ?_ (fun _ => ?_)
def boring_Merge.T22 : Bool × List (List Nat × List Nat) := (true, [([], []), ([], []), ([], []), ([2], [2]), ([1, 3], [1, 3]), ([4], [4]), ([0, 5], [0, 5]), ([], []), ([], []), ([], []), ([9], [9]), ([8, 10], [8, 10]), ([11], [11]), ([7, 12, 6], [7, 12]), ([6, 13, 0, 1, 2, 3, 4, 5, 6], [6]), ([13, 14, 0, 1, 2, 3, 4, 5, 6, 7, 8, 9, 10, 11, 12, 13, 14], [13])])
def boring_Merge.B22 : List Nat := [0, 0, 0, 4, 14, 30, 63, 0, 0, 0, 512, 1792, 3840, 8191, 16383, 32767]
theorem boring_Merge.tab22 : rtab .any (opsOf Tryz.f26 22) = boring_Merge.T22 := by kernel_rfl
theorem boring_Merge.bits22 : waitsOk boring_Merge.T22.2 boring_Merge.B22 = true := by kernel_rfl
def boring_Merge.T27 : Bool × List (List Nat × List Nat) := (true, [([], []), ([], []), ([], []), ([2], [2]), ([1, 3], [1, 3]), ([4], [4]), ([], []), ([], []), ([6, 7], [6, 7]), ([8], [8]), ([], []), ([5, 9, 10], [5, 9, 10]), ([11], [11]), ([0, 12], [0, 12]), ([13, 13, 0, 1, 2, 3, 4, 5, 6, 7, 8, 9, 10, 11, 12, 13], [0, 13])])
def boring_Merge.B27 : List Nat := [0, 0, 0, 4, 14, 30, 0, 0, 192, 448, 0, 2046, 4094, 8191, 16383]
theorem boring_Merge.tab27 : rtab .any (opsOf Tryz.f26 27) = boring_Merge.T27 := by kernel_rfl
theorem boring_Merge.bits27 : waitsOk boring_Merge.T27.2 boring_Merge.B27 = true := by kernel_rfl
def boring_Merge.T28 : Bool × List (List Nat × List Nat) := (true, [([], []), ([0], [0]), ([], []), ([2], [2]), ([], []), ([4], [4]), ([1, 3, 5], [1, 3, 5]), ([6, 5, 0, 1, 2, 3, 4, 5, 6], [6]), ([7, 0, 1, 2, 3, 4, 5, 6, 7], [])])
def boring_Merge.B28 : List Nat := [0, 1, 0, 4, 0, 16, 63, 127, 255]
theorem boring_Merge.tab28 : rtab .any (opsOf Tryz.f26 28) = boring_Merge.T28 := by kernel_rfl
theorem boring_Merge.bits28 : waitsOk boring_Merge.T28.2 boring_Merge.B28 = true := by kernel_rfl
set_option maxHeartbeats 8000000 in
set_option maxRecDepth 100000 in
theorem boring_Merge.calls (k : Nat) (a0_0 : ByteArray) (a0_1 : Int) (a0_2 : Int) (P0_3_ : Nat → Prop) (A0_3 : Option Addr) (c0_3 : Nat) (l0_3 : List (S48)) (a1_0 : ByteArray) (a1_1 : Int) (a1_2 : Int) (P1_3_ : Nat → Prop) (A1_3 : Option Addr) (c1_3 : Nat) (l1_3 : List (S48)) (r1 : ByteArray) (r2 : Int) (r3 : Int) (r4 : List (S48)) (r5 : Int) (w : World) (hs0_3 : Kd.V k48 48 w w.heap.size (fun k_ => P0_3_ k_) (.slice A0_3 l0_3.length c0_3) l0_3) (hs1_3 : Kd.V k48 48 w w.heap.size (fun k_ => P1_3_ k_) (.slice A1_3 l1_3.length c1_3) l1_3) (h : boring_Merge.f k a0_0 a0_1 a0_2 l0_3 a1_0 a1_1 a1_2 l1_3 = some (r1, r2, r3, r4, r5)) :
  Calls Tryz.prog 26 #[.agg #[.string a0_0, .int .i64 a0_1, .int .i64 a0_2, .slice A0_3 l0_3.length c0_3], .agg #[.string a1_0, .int .i64 a1_1, .int .i64 a1_2, .slice A1_3 l1_3.length c1_3]] w fun e w' => ∃ v3_ : Value, e = .returned (.tuple #[.agg #[.string r1, .int .i64 r2, .int .i64 r3, v3_], .int .i64 r5]) ∧ Kd.R k48 48 w' w.heap.size (fun k_ => (w.heap.size ≤ k_)) v3_ r4 ∧ Below w.heap.size w w' := by
 have hu33 := Tryz.underlying33
 have hu30 := Tryz.underlying30
 have hu48 := Tryz.underlying48
 have HO0_3 := aK (show Kd.V k48 48 w w.heap.size (fun k_ => ((P0_3_ k_ ∨ P1_3_ k_) ∨ w.heap.size ≤ k_)) (.slice A0_3 l0_3.length c0_3) l0_3 from Kd.V_mono hs0_3 (fun k_ hk => .inl (.inl hk)))
 have HO1_3 := aK (show Kd.V k48 48 w w.heap.size (fun k_ => ((P0_3_ k_ ∨ P1_3_ k_) ∨ w.heap.size ≤ k_)) (.slice A1_3 l1_3.length c1_3) l1_3 from Kd.V_mono hs1_3 (fun k_ hk => .inl (.inr hk)))
 have HB := aK (Below.refl w.heap.size w)
 have H : ((some (([(⟨a0_0, (⟨a0_1, a0_2⟩ : S30), l0_3⟩ : S33), (⟨a1_0, (⟨a1_1, a1_2⟩ : S30), l1_3⟩ : S33)] : List (S33)) : List (S33))).bind fun y422 => (boring_Merge.l0 k y422 (y422.length : Int) 0 a0_0 a0_1 a0_2 l0_3 a1_0 a1_1 a1_2 l1_3)) = some (r1, r2, r3, r4, r5) := h
 clear h
 obtain ⟨y422, hy422⟩ : ∃ y_ : List (S33), y_ = (([(⟨a0_0, (⟨a0_1, a0_2⟩ : S30), l0_3⟩ : S33), (⟨a1_0, (⟨a1_1, a1_2⟩ : S30), l1_3⟩ : S33)] : List (S33))) := ⟨_, rfl⟩
 replace H : (boring_Merge.l0 k y422 (y422.length : Int) 0 a0_0 a0_1 a0_2 l0_3 a1_0 a1_1 a1_2 l1_3) = some (r1, r2, r3, r4, r5) := by first | (rw [hy422]; with_reducible exact H) | (have H2_ := (Option.bind_some _ _).symm.trans H; rw [hy422]; with_reducible exact H2_) | (have H2_ := (Option.bind_some _ _).symm.trans H; with_reducible exact H2_) | with_reducible exact H | (rw [hy422]; exact H) | exact H
 have Ny422 := aK hy422
 clear hy422
 have H' := aK H
 clear H
 go_enter Tryz.func26, Tryz.ntmps26
 go_wp2_with (first | ((with_reducible refine gate_dst (N := 2) rfl ?_); refine box_event ?hg (N := 2) ?hd (cs := #[.string a0_0, .int .i64 a0_1, .int .i64 a0_2, .slice A0_3 l0_3.length c0_3]) (t := 33) ?hr ?_; (case hd => rfl); (case hg => rfl); (case hr => first | (go_simp; done) | (go_simp; rfl)); intro gb419 hg w3 hbox hb; have n0_ := aK (Kd.V_below (Kd.V_elderB (HO0_3.out) gb419 (Nat.le_of_eq hg.symm)) hb); have n1_ := aK (Kd.V_below (Kd.V_elderB (HO1_3.out) gb419 (Nat.le_of_eq hg.symm)) hb); have n2_ := aK (yT (HB.out) hb); have n3_ := aK (hbox); have n4_ := aK ((by rw [hg]; exact (yZ (HB.out)) : w.heap.size ≤ gb419)); have n5_ := n4_; clear HO0_3; clear HO1_3; clear HB; have HO0_3 := n0_; have HO1_3 := n1_; have HB := n2_; have BK419 := n3_; have GW419 := n4_; have GE419 := n5_; clear n0_ n1_ n2_ n3_ n4_ n5_; clear hb hbox hg) | ((with_reducible refine gate_dst (N := 3) rfl ?_); refine box_event ?hg (N := 3) ?hd (cs := #[.string a1_0, .int .i64 a1_1, .int .i64 a1_2, .slice A1_3 l1_3.length c1_3]) (t := 33) ?hr ?_; (case hd => rfl); (case hg => rfl); (case hr => first | (go_simp; done) | (go_simp; rfl)); intro gb420 hg w4 hbox hb; have n0_ := aK (Kd.V_below (Kd.V_elderB (HO0_3.out) gb420 (Nat.le_of_eq hg.symm)) hb); have n1_ := aK (Kd.V_below (Kd.V_elderB (HO1_3.out) gb420 (Nat.le_of_eq hg.symm)) hb); have n2_ := aK (zB (g := gb419) (o := .cells #[.string a0_0, .int .i64 a0_1, .int .i64 a0_2, .slice A0_3 l0_3.length c0_3] 33 (0, 0)) (BK419.out) hb); have n3_ := aK (yT (HB.out) hb); have n4_ := aK (hbox); have n5_ := aK ((by rw [hg]; exact (yZ (HB.out)) : w.heap.size ≤ gb420)); have n6_ := n5_; have n7_ := aK ((by rw [hg]; exact Nat.ne_of_lt (blk_lt (g := gb419) (o := .cells #[.string a0_0, .int .i64 a0_1, .int .i64 a0_2, .slice A0_3 l0_3.length c0_3] 33 (0, 0)) (BK419.out)) : gb419 ≠ gb420)); have n8_ := aK ((by rw [hg]; exact Nat.ne_of_gt (blk_lt (g := gb419) (o := .cells #[.string a0_0, .int .i64 a0_1, .int .i64 a0_2, .slice A0_3 l0_3.length c0_3] 33 (0, 0)) (BK419.out)) : gb420 ≠ gb419)); clear HO0_3; clear HO1_3; clear BK419; clear HB; have HO0_3 := n0_; have HO1_3 := n1_; have BK419 := n2_; have HB := n3_; have BK420 := n4_; have GW420 := n5_; have GE420 := n6_; have NB419_420 := n7_; have NB420_419 := n8_; clear n0_ n1_ n2_ n3_ n4_ n5_ n6_ n7_ n8_; clear hb hbox hg) | ((with_reducible refine gate_dst (N := 4) rfl ?_); refine box_event ?hg (N := 4) ?hd (cs := #[.string (⟨#[]⟩ : ByteArray), .int .i64 0, .int .i64 0, .slice none 0 0]) (t := 33) ?hr ?_; (case hd => rfl); (case hg => rfl); (case hr => first | (go_simp; done) | (go_simp; rfl)); intro gb421 hg w5 hbox hb; have n0_ := aK (Kd.V_below (Kd.V_elderB (HO0_3.out) gb421 (Nat.le_of_eq hg.symm)) hb); have n1_ := aK (Kd.V_below (Kd.V_elderB (HO1_3.out) gb421 (Nat.le_of_eq hg.symm)) hb); have n2_ := aK (zB (g := gb419) (o := .cells #[.string a0_0, .int .i64 a0_1, .int .i64 a0_2, .slice A0_3 l0_3.length c0_3] 33 (0, 0)) (BK419.out) hb); have n3_ := aK (zB (g := gb420) (o := .cells #[.string a1_0, .int .i64 a1_1, .int .i64 a1_2, .slice A1_3 l1_3.length c1_3] 33 (0, 0)) (BK420.out) hb); have n4_ := aK (yT (HB.out) hb); have n5_ := aK (hbox); have n6_ := aK ((by rw [hg]; exact (yZ (HB.out)) : w.heap.size ≤ gb421)); have n7_ := n6_; have n8_ := aK ((by rw [hg]; exact Nat.ne_of_lt (blk_lt (g := gb419) (o := .cells #[.string a0_0, .int .i64 a0_1, .int .i64 a0_2, .slice A0_3 l0_3.length c0_3] 33 (0, 0)) (BK419.out)) : gb419 ≠ gb421)); have n9_ := aK ((by rw [hg]; exact Nat.ne_of_gt (blk_lt (g := gb419) (o := .cells #[.string a0_0, .int .i64 a0_1, .int .i64 a0_2, .slice A0_3 l0_3.length c0_3] 33 (0, 0)) (BK419.out)) : gb421 ≠ gb419)); have n10_ := aK ((by rw [hg]; exact Nat.ne_of_lt (blk_lt (g := gb420) (o := .cells #[.string a1_0, .int .i64 a1_1, .int .i64 a1_2, .slice A1_3 l1_3.length c1_3] 33 (0, 0)) (BK420.out)) : gb420 ≠ gb421)); have n11_ := aK ((by rw [hg]; exact Nat.ne_of_gt (blk_lt (g := gb420) (o := .cells #[.string a1_0, .int .i64 a1_1, .int .i64 a1_2, .slice A1_3 l1_3.length c1_3] 33 (0, 0)) (BK420.out)) : gb421 ≠ gb420)); clear HO0_3; clear HO1_3; clear BK419; clear BK420; clear HB; have HO0_3 := n0_; have HO1_3 := n1_; have BK419 := n2_; have BK420 := n3_; have HB := n4_; have BK421 := n5_; have GW421 := n6_; have GE421 := n7_; have NB419_421 := n8_; have NB421_419 := n9_; have NB420_421 := n10_; have NB421_420 := n11_; clear n0_ n1_ n2_ n3_ n4_ n5_ n6_ n7_ n8_ n9_ n10_ n11_; clear hb hbox hg; have hnb6 := NB419_420.out; have hnc6 := NB420_419.out; have hnb7 := NB419_421.out; have hnc7 := NB421_419.out; have hcz8_0 := zI BK419 0 rfl; have hcz8_1 := zI BK419 1 rfl; have hcz8_2 := zI BK419 2 rfl; have hcz8_3 := zI BK419 3 rfl; have hfz8_0 := zF BK419.out 0; have hfz8_1 := zF BK419.out 1; have hfz8_2 := zF BK419.out 2; have hfz8_3 := zF BK419.out 3; have hnb9 := NB420_421.out; have hnc9 := NB421_420.out; have hcz10_0 := zI BK420 0 rfl; have hcz10_1 := zI BK420 1 rfl; have hcz10_2 := zI BK420 2 rfl; have hcz10_3 := zI BK420 3 rfl; have hfz10_0 := zF BK420.out 0; have hfz10_1 := zF BK420.out 1; have hfz10_2 := zF BK420.out 2; have hfz10_3 := zF BK420.out 3) | ((with_reducible refine gate_dst (N := 18) rfl ?_); refine Kd.N_lit k33 _ 33 ?hg (N' := 18) ?hd (xs := ([(⟨a0_0, (⟨a0_1, a0_2⟩ : S30), l0_3⟩ : S33), (⟨a1_0, (⟨a1_1, a1_2⟩ : S30), l1_3⟩ : S33)] : List (S33))) (inner := [.string a0_0, .int .i64 a0_1, .int .i64 a0_2, .slice A0_3 l0_3.length c0_3, .string a1_0, .int .i64 a1_1, .int .i64 a1_2, .slice A1_3 l1_3.length c1_3]) (ok := (fun k_ => ((P0_3_ k_ ∨ P1_3_ k_) ∨ w.heap.size ≤ k_) ∧ k_ ≠ gb419 ∧ k_ ≠ gb420 ∧ k_ ≠ gb421)) (okp := (fun k_ => ((P0_3_ k_ ∨ P1_3_ k_) ∨ w.heap.size ≤ k_) ∧ k_ ≠ gb419 ∧ k_ ≠ gb420 ∧ k_ ≠ gb421)) ?hr ?hp (fun _ hk => hk) ((show ∀ k_, w5.heap.size ≤ k_ → (fun k_ => ((P0_3_ k_ ∨ P1_3_ k_) ∨ w.heap.size ≤ k_) ∧ k_ ≠ gb419 ∧ k_ ≠ gb420 ∧ k_ ≠ gb421) k_ from fun k_ hk => ⟨(.inr (Nat.le_trans (yZ (HB.out)) hk)), Kd.freshB (g := gb419) (o := .cells #[.string a0_0, .int .i64 a0_1, .int .i64 a0_2, .slice A0_3 l0_3.length c0_3] 33 (0, 0)) (BK419.out) k_ hk, Kd.freshB (g := gb420) (o := .cells #[.string a1_0, .int .i64 a1_1, .int .i64 a1_2, .slice A1_3 l1_3.length c1_3] 33 (0, 0)) (BK420.out) k_ hk, Kd.freshB (g := gb421) (o := .cells #[.string (⟨#[]⟩ : ByteArray), .int .i64 0, .int .i64 0, .slice none 0 0] 33 (0, 0)) (BK421.out) k_ hk⟩) _ (Nat.le_refl _)) (Below.refl _ _) (Nat.le_refl _) (by simp) ?_; (case hd => rfl); (case hg => rfl); (case hr => first | (go_simp; done) | (go_simp; rfl)); (case hp => exact (Reps.c4 (show Kd.FK k33 _ _ (⟨a0_0, (⟨a0_1, a0_2⟩ : S30), l0_3⟩ : S33) [.string a0_0, .int .i64 a0_1, .int .i64 a0_2, .slice A0_3 l0_3.length c0_3] from (k33_mkF _ _ (⟨a0_0, (⟨a0_1, a0_2⟩ : S30), l0_3⟩ : S33) (Kd.V_reads' (Kd.V_mono (ok' := (fun k_ => ((P0_3_ k_ ∨ P1_3_ k_) ∨ w.heap.size ≤ k_) ∧ k_ ≠ gb419 ∧ k_ ≠ gb420 ∧ k_ ≠ gb421)) (HO0_3.out) (fun k_ hk => ⟨hk.1.1.1, ⟨hk.1.1.2, ⟨hk.1.2, hk.2⟩⟩⟩))).2.1 (Kd.V_F (Kd.V_mono (ok' := (fun k_ => ((P0_3_ k_ ∨ P1_3_ k_) ∨ w.heap.size ≤ k_) ∧ k_ ≠ gb419 ∧ k_ ≠ gb420 ∧ k_ ≠ gb421)) (HO0_3.out) (fun k_ hk => ⟨hk.1.1.1, ⟨hk.1.1.2, ⟨hk.1.2, hk.2⟩⟩⟩))))) (Reps.c4 (show Kd.FK k33 _ _ (⟨a1_0, (⟨a1_1, a1_2⟩ : S30), l1_3⟩ : S33) [.string a1_0, .int .i64 a1_1, .int .i64 a1_2, .slice A1_3 l1_3.length c1_3] from (k33_mkF _ _ (⟨a1_0, (⟨a1_1, a1_2⟩ : S30), l1_3⟩ : S33) (Kd.V_reads' (Kd.V_mono (ok' := (fun k_ => ((P0_3_ k_ ∨ P1_3_ k_) ∨ w.heap.size ≤ k_) ∧ k_ ≠ gb419 ∧ k_ ≠ gb420 ∧ k_ ≠ gb421)) (HO1_3.out) (fun k_ hk => ⟨hk.1.1.1, ⟨hk.1.1.2, ⟨hk.1.2, hk.2⟩⟩⟩))).2.1 (Kd.V_F (Kd.V_mono (ok' := (fun k_ => ((P0_3_ k_ ∨ P1_3_ k_) ∨ w.heap.size ≤ k_) ∧ k_ ≠ gb419 ∧ k_ ≠ gb420 ∧ k_ ≠ gb421)) (HO1_3.out) (fun k_ hk => ⟨hk.1.1.1, ⟨hk.1.1.2, ⟨hk.1.2, hk.2⟩⟩⟩))))) (Reps.none _ _)))); intro v423 w11 ho12 hb hg_ hnew_; clear hg_ hnew_; (first | rw [← Ny422.out] at ho12 | (simp only [Int.reduceToNat] at ho12; rw [← Ny422.out] at ho12)); have n0_ := aK (Kd.V_elder' (HO0_3.out) (Kd.N_base ho12) hb); have n1_ := aK (Kd.V_elder' (HO1_3.out) (Kd.N_base ho12) hb); have n2_ := aK (Kd.N_lower ho12 (yZ (HB.out))); have n3_ := aK (zB (g := gb419) (o := .cells #[.string a0_0, .int .i64 a0_1, .int .i64 a0_2, .slice A0_3 l0_3.length c0_3] 33 (0, 0)) (BK419.out) hb); have n4_ := aK (zB (g := gb420) (o := .cells #[.string a1_0, .int .i64 a1_1, .int .i64 a1_2, .slice A1_3 l1_3.length c1_3] 33 (0, 0)) (BK420.out) hb); have n5_ := aK (zB (g := gb421) (o := .cells #[.string (⟨#[]⟩ : ByteArray), .int .i64 0, .int .i64 0, .slice none 0 0] 33 (0, 0)) (BK421.out) hb); have n6_ := aK (yT (HB.out) hb); clear HO0_3; clear HO1_3; clear BK419; clear BK420; clear BK421; clear HB; have HO0_3 := n0_; have HO1_3 := n1_; have HO424 := n2_; have BK419 := n3_; have BK420 := n4_; have BK421 := n5_; have HB := n6_; clear n0_ n1_ n2_ n3_ n4_ n5_ n6_; clear hb ho12; obtain ⟨Ao13, co13, eo13⟩ := Kd.N_slice HO424.out; subst eo13))
 go_loopg [20] k (fun kq v20 w' => ∃ (x20_1 : Int) (x422000_1 : ByteArray) (x422001_1 : Int) (x422002_1 : Int), v20 = .int .i64 x20_1 ∧ Aside0 (boring_Merge.l0 kq y422 (y422.length : Int) x20_1 a0_0 a0_1 a0_2 l0_3 a1_0 a1_1 a1_2 l1_3 = some (r1, r2, r3, r4, r5)) ∧ Aside0 (kq ≤ k) ∧ Aside0 (Kd.N k33 33 w' w.heap.size (fun k_ => ((P0_3_ k_ ∨ P1_3_ k_) ∨ w.heap.size ≤ k_) ∧ k_ ≠ gb419 ∧ k_ ≠ gb420 ∧ k_ ≠ gb421) (.slice Ao13 y422.length co13) y422) ∧ Aside0 (Kd.V k48 48 w' w.heap.size (fun k_ => ((P0_3_ k_ ∨ P1_3_ k_) ∨ w.heap.size ≤ k_) ∧ some k_ ≠ ((.slice Ao13 y422.length co13) : Value).ownBlock ∧ k_ ≠ gb419 ∧ k_ ≠ gb420 ∧ k_ ≠ gb421) (.slice A0_3 l0_3.length c0_3) l0_3) ∧ Aside0 (Kd.V k48 48 w' w.heap.size (fun k_ => ((P0_3_ k_ ∨ P1_3_ k_) ∨ w.heap.size ≤ k_) ∧ some k_ ≠ ((.slice Ao13 y422.length co13) : Value).ownBlock ∧ k_ ≠ gb419 ∧ k_ ≠ gb420 ∧ k_ ≠ gb421) (.slice A1_3 l1_3.length c1_3) l1_3) ∧ Aside0 (w'.heap[gb419]? = some (.cells #[.string a0_0, .int .i64 a0_1, .int .i64 a0_2, (.slice A0_3 l0_3.length c0_3)] 33 (0, 0))) ∧ Aside0 (w'.heap[gb420]? = some (.cells #[.string a1_0, .int .i64 a1_1, .int .i64 a1_2, (.slice A1_3 l1_3.length c1_3)] 33 (0, 0))) ∧ Aside0 (w'.heap[gb421]? = some (.cells #[.string x422000_1, .int .i64 x422001_1, .int .i64 x422002_1, (.slice none 0 0)] 33 (0, 0))) ∧ Aside0 (Below w.heap.size w w'))
 case atStart => exact ⟨(0), ((⟨#[]⟩ : ByteArray)), (0), (0), (by first | rfl | (simp; done) | (simp [*]; done)), H', ⟨Nat.le_refl _⟩, ⟨HO424.out⟩, ⟨by (with_reducible repeat (first | apply Kd.V_alloc | apply Kd.V_drewN | apply Kd.V_drew)); exact Kd.V_mono HO0_3.out (fun _ hk => ⟨hk.1.1.1.1, ⟨hk.2, ⟨hk.1.1.1.2, ⟨hk.1.1.2, hk.1.2⟩⟩⟩⟩)⟩, ⟨by (with_reducible repeat (first | apply Kd.V_alloc | apply Kd.V_drewN | apply Kd.V_drew)); exact Kd.V_mono HO1_3.out (fun _ hk => ⟨hk.1.1.1.1, ⟨hk.2, ⟨hk.1.1.1.2, ⟨hk.1.1.2, hk.1.2⟩⟩⟩⟩)⟩, ⟨BK419.out⟩, ⟨BK420.out⟩, ⟨BK421.out⟩, ⟨HB.out⟩⟩
 case round =>
  clear H'
  try clear c1
  try clear c2
  try clear p2
  try clear c4
  try clear c6
  try clear c7
  try clear c9
  try clear hcz10_0
  try clear hcz10_1
  try clear hcz10_2
  try clear hcz10_3
  try clear hcz8_0
  try clear hcz8_1
  try clear hcz8_2
  try clear hcz8_3
  try clear hfz10_0
  try clear hfz10_1
  try clear hfz10_2
  try clear hfz10_3
  try clear hfz8_0
  try clear hfz8_1
  try clear hfz8_2
  try clear hfz8_3
  obtain ⟨x20_1, x422000_1, x422001_1, x422002_1, rfl, HA, HK1, HO_18, HO_420003, HO_421003, BK419, BK420, BK421, HB⟩ := hrel
  cases gk with
  | zero => exact absurd HA.out (by simp [boring_Merge.l0])
  | succ k1 =>
   have H := HA.out
   clear HA
   simp only [boring_Merge.l0] at H
   by_cases c14 : x20_1 < (y422.length : Int)
   ·rw [if_pos c14] at H
    have c14b0 : decide (x20_1 < (y422.length : Int)) = true := decide_eq_true c14
    clear c14
    by_cases c15 : 0 ≤ x20_1
    rotate_left
    ·rw [if_neg c15] at H
     exact absurd H (by simp)
    rw [if_pos c15] at H
    have c15b0 : decide (0 ≤ x20_1) = true := decide_eq_true c15
    clear c15
    by_cases c16 : x20_1 < (y422.length : Int)
    rotate_left
    ·rw [if_neg c16] at H
     exact absurd H (by simp)
    rw [if_pos c16] at H
    have c16b0 : decide (x20_1 < (y422.length : Int)) = true := decide_eq_true c16
    clear c16
    replace H := Option.bind_eq_some_iff.mp H
    obtain ⟨t427, A170, H⟩ := H
    replace H : (if t427 = 0 then (boring_Merge.l0 k1 y422 (y422.length : Int) (wrap64 (x20_1 + 1)) a0_0 a0_1 a0_2 l0_3 a1_0 a1_1 a1_2 l1_3) else (some ((⟨#[]⟩ : ByteArray), 0, 0, ([] : List (S48)), t427))) = some (r1, r2, r3, r4, r5) := H
    have A17 := aK A170
    clear A170
    by_cases c18 : t427 = 0
    ·rw [if_pos c18] at H
     have c18b0 : (t427 == 0) = true := beq_iff_eq.mpr c18
     have c18b1 : (t427 != 0) = false := bne_eq_false_iff_eq.mpr c18
     clear c18
     have H' := aK H
     clear H
     have p425 : 0 ≤ (x20_1 : Int) := of_decide_eq_true (by assumption)
     have q425 : x20_1 < (y422.length : Int) := of_decide_eq_true (by assumption)
     obtain ⟨ad425, A425_3, c425_3, e425, hx425_0, hx425_1, hx425_2, hx425_3, hl425_3, hi425_3⟩ := at_T33 (Kd.N_reads' HO_18.out).2.2 x20_1 p425 q425
     cases e425
     obtain ⟨ce425, hce425, hMe425, hcc425⟩ := Kd.N_get HO_18.out z33 x20_1 p425 (by first | exact q425 | exact of_decide_eq_true (by assumption) | (have e_ := (Kd.N_reads' HO_18.out).1; omega))
     obtain ⟨ua425_3, uc425_3, rfl, ul425_3, ge425_3⟩ := k33_openF hMe425
     have hv425_3 := hcc425 3 _ rfl
     rw [add_field _ _ 3 (by omega)] at hv425_3
     replace hv425_3 := Option.some.inj (hv425_3.symm.trans hx425_3)
     injection hv425_3 with hva_ hvn_ hvc_
     rw [hva_] at ge425_3
     rw [hvc_] at ul425_3
     have HL425_3 := aK (show Kd.V k48 48 _ w.heap.size _ _ ((rd_T33 y422 x20_1).f2) from Kd.V_mk ul425_3 ge425_3)
     clear hva_ hvn_ hvc_ ge425_3 ul425_3
     clear hcc425 hce425
     have HR425_3 := aK hi425_3
     have HC425_3 := aK hl425_3
     clear hi425_3 hl425_3
     replace p425 := eq_true p425
     replace q425 := eq_true q425
     go_wp2_with (first | ((with_reducible refine gate_dst (N := 7) rfl ?_); refine box_event ?hg (N := 7) ?hd (cs := #[.string (⟨#[]⟩ : ByteArray), .int .i64 0, .int .i64 0, .slice none 0 0]) (t := 33) ?hr ?_; (case hd => rfl); (case hg => rfl); (case hr => first | (go_simp; done) | (go_simp; rfl)); intro gb426 hg w19 hbox hb; have n0_ := aK (Kd.N_below (Kd.N_elderB (HO_18.out) gb426 (Nat.le_of_eq hg.symm)) hb); have n1_ := aK (Kd.V_below (Kd.V_elderB (HO_420003.out) gb426 (Nat.le_of_eq hg.symm)) hb); have n2_ := aK (Kd.V_below (Kd.V_elderB (HO_421003.out) gb426 (Nat.le_of_eq hg.symm)) hb); have n3_ := aK (Kd.V_below (Kd.V_elderB (HL425_3.out) gb426 (Nat.le_of_eq hg.symm)) hb); have n4_ := aK (zB (g := gb419) (o := .cells #[.string a0_0, .int .i64 a0_1, .int .i64 a0_2, .slice A0_3 l0_3.length c0_3] 33 (0, 0)) (BK419.out) hb); have n5_ := aK (zB (g := gb420) (o := .cells #[.string a1_0, .int .i64 a1_1, .int .i64 a1_2, .slice A1_3 l1_3.length c1_3] 33 (0, 0)) (BK420.out) hb); have n6_ := aK (zB (g := gb421) (o := .cells #[.string x422000_1, .int .i64 x422001_1, .int .i64 x422002_1, .slice none 0 0] 33 (0, 0)) (BK421.out) hb); have n7_ := aK (Kd.C_below (by repeat (first | (with_reducible exact HR425_3.out) | (with_reducible refine Kd.C_alloc ?_ _) | (with_reducible refine Kd.C_drewN ?_ _) | (with_reducible refine Kd.C_drew ?_) | exact HR425_3.out)) hb); have ⟨n8_, n10_⟩ := zV (w := w) hb hg (by repeat (first | (with_reducible first | exact HB.out | apply yA | apply yN | apply yD | refine yS ?_ GE419.out | refine yS ?_ GE420.out | refine yS ?_ GE421.out) | exact HB.out)); have n9_ := aK (hbox); have n11_ := n10_; have n12_ := aK ((by rw [hg]; exact Nat.ne_of_lt (blk_lt (g := gb419) (o := .cells #[.string a0_0, .int .i64 a0_1, .int .i64 a0_2, .slice A0_3 l0_3.length c0_3] 33 (0, 0)) (BK419.out)) : gb419 ≠ gb426)); have n13_ := aK ((by rw [hg]; exact Nat.ne_of_gt (blk_lt (g := gb419) (o := .cells #[.string a0_0, .int .i64 a0_1, .int .i64 a0_2, .slice A0_3 l0_3.length c0_3] 33 (0, 0)) (BK419.out)) : gb426 ≠ gb419)); have n14_ := aK ((by rw [hg]; exact Nat.ne_of_lt (blk_lt (g := gb420) (o := .cells #[.string a1_0, .int .i64 a1_1, .int .i64 a1_2, .slice A1_3 l1_3.length c1_3] 33 (0, 0)) (BK420.out)) : gb420 ≠ gb426)); have n15_ := aK ((by rw [hg]; exact Nat.ne_of_gt (blk_lt (g := gb420) (o := .cells #[.string a1_0, .int .i64 a1_1, .int .i64 a1_2, .slice A1_3 l1_3.length c1_3] 33 (0, 0)) (BK420.out)) : gb426 ≠ gb420)); have n16_ := aK ((by rw [hg]; exact Nat.ne_of_lt (blk_lt (g := gb421) (o := .cells #[.string x422000_1, .int .i64 x422001_1, .int .i64 x422002_1, .slice none 0 0] 33 (0, 0)) (BK421.out)) : gb421 ≠ gb426)); have n17_ := aK ((by rw [hg]; exact Nat.ne_of_gt (blk_lt (g := gb421) (o := .cells #[.string x422000_1, .int .i64 x422001_1, .int .i64 x422002_1, .slice none 0 0] 33 (0, 0)) (BK421.out)) : gb426 ≠ gb421)); clear HO_18; clear HO_420003; clear HO_421003; clear HL425_3; clear BK419; clear BK420; clear BK421; clear HR425_3; clear HB; have HO_18 := n0_; have HO_420003 := n1_; have HO_421003 := n2_; have HL425_3 := n3_; have BK419 := n4_; have BK420 := n5_; have BK421 := n6_; have HR425_3 := n7_; have HB := n8_; have BK426 := n9_; have GW426 := n10_; have GE426 := n11_; have NB419_426 := n12_; have NB426_419 := n13_; have NB420_426 := n14_; have NB426_420 := n15_; have NB421_426 := n16_; have NB426_421 := n17_; clear n0_ n1_ n2_ n3_ n4_ n5_ n6_ n7_ n8_ n9_ n10_ n11_ n12_ n13_ n14_ n15_ n16_ n17_; clear hb hbox hg; have hnb20 := NB426_419.out; have hnc20 := NB419_426.out; have hnb21 := NB426_420.out; have hnc21 := NB420_426.out; have hnb22 := NB426_421.out; have hnc22 := NB421_426.out; have hcz23_0 := zI BK426 0 rfl; have hcz23_1 := zI BK426 1 rfl; have hcz23_2 := zI BK426 2 rfl; have hcz23_3 := zI BK426 3 rfl; have hfz23_0 := zF BK426.out 0; have hfz23_1 := zF BK426.out 1; have hfz23_2 := zF BK426.out 2; have hfz23_3 := zF BK426.out 3) | ((with_reducible refine gate_callee (f := 46) rfl ?_); refine goesL_ (some 25) rfl rfl Tryz.func46 (by kernel_rfl) rfl #[.agg #[.string ((rd_T33 y422 x20_1).f0), .int .i64 ((rd_T33 y422 x20_1).f1.f0), .int .i64 ((rd_T33 y422 x20_1).f1.f1), .slice A425_3 ((rd_T33 y422 x20_1).f2).length c425_3]] rfl (by (try simp only [List.map_toArray, List.map_cons, List.map_nil]); first | done | rfl | (simp only [List.length_drop, List.length_take]; rfl)) ?_; (with_reducible refine (boring_formed.calls ((rd_T33 y422 x20_1).f0) ((rd_T33 y422 x20_1).f1.f0) ((rd_T33 y422 x20_1).f1.f1) _ _ ((rd_T33 y422 x20_1).f2) t427 _ ?side1 ?side2 A17.out).mono ?_); (case side1 => repeat (first | exact ((Kd.V_reads' (by (with_reducible repeat (first | apply Kd.V_alloc | apply Kd.V_drewN | apply Kd.V_drew)); exact (Kd.V_mono (Kd.V_far (p := ⟨gb426, 3, none⟩) (Kd.V_far (p := ⟨gb426, 2, none⟩) (Kd.V_far (p := ⟨gb426, 1, none⟩) (Kd.V_far (p := ⟨gb426, 0, none⟩) (Kd.V_mono HL425_3.out (fun k_ hk => (⟨hk, hk.2⟩ : _ ∧ k_ ≠ gb426))) (fun _ hk => hk.2) (.string ((rd_T33 y422 x20_1).f0))) (fun _ hk => hk.2) (.int .i64 ((rd_T33 y422 x20_1).f1.f0))) (fun _ hk => hk.2) (.int .i64 ((rd_T33 y422 x20_1).f1.f1))) (fun _ hk => hk.2) (.slice A425_3 ((rd_T33 y422 x20_1).f2).length c425_3)) (fun _ h_ => h_.1)))).2.2) | (with_reducible refine Kd.C_alloc ?_ _) | (with_reducible refine Kd.C_drewN ?_ _) | (with_reducible refine Kd.C_drew ?_))); (case side2 => exact HC425_3.out); rintro e w24 ⟨rfl, hb⟩; refine ⟨_, rfl, ?_⟩; have n0_ := aK (Kd.N_below (by (with_reducible repeat (first | apply Kd.N_alloc | apply Kd.N_drewN | apply Kd.N_drew)); exact (Kd.N_mono (Kd.N_far (p := ⟨gb426, 3, none⟩) (Kd.N_far (p := ⟨gb426, 2, none⟩) (Kd.N_far (p := ⟨gb426, 1, none⟩) (Kd.N_far (p := ⟨gb426, 0, none⟩) (Kd.N_mono HO_18.out (fun k_ hk => (⟨hk, hk.2⟩ : _ ∧ k_ ≠ gb426))) (fun _ hk => hk.2) (.string ((rd_T33 y422 x20_1).f0))) (fun _ hk => hk.2) (.int .i64 ((rd_T33 y422 x20_1).f1.f0))) (fun _ hk => hk.2) (.int .i64 ((rd_T33 y422 x20_1).f1.f1))) (fun _ hk => hk.2) (.slice A425_3 ((rd_T33 y422 x20_1).f2).length c425_3)) (fun _ h_ => h_.1))) hb); have n1_ := aK (Kd.V_below (by (with_reducible repeat (first | apply Kd.V_alloc | apply Kd.V_drewN | apply Kd.V_drew)); exact (Kd.V_mono (Kd.V_far (p := ⟨gb426, 3, none⟩) (Kd.V_far (p := ⟨gb426, 2, none⟩) (Kd.V_far (p := ⟨gb426, 1, none⟩) (Kd.V_far (p := ⟨gb426, 0, none⟩) (Kd.V_mono HO_420003.out (fun k_ hk => (⟨hk, hk.2⟩ : _ ∧ k_ ≠ gb426))) (fun _ hk => hk.2) (.string ((rd_T33 y422 x20_1).f0))) (fun _ hk => hk.2) (.int .i64 ((rd_T33 y422 x20_1).f1.f0))) (fun _ hk => hk.2) (.int .i64 ((rd_T33 y422 x20_1).f1.f1))) (fun _ hk => hk.2) (.slice A425_3 ((rd_T33 y422 x20_1).f2).length c425_3)) (fun _ h_ => h_.1))) hb); have n2_ := aK (Kd.V_below (by (with_reducible repeat (first | apply Kd.V_alloc | apply Kd.V_drewN | apply Kd.V_drew)); exact (Kd.V_mono (Kd.V_far (p := ⟨gb426, 3, none⟩) (Kd.V_far (p := ⟨gb426, 2, none⟩) (Kd.V_far (p := ⟨gb426, 1, none⟩) (Kd.V_far (p := ⟨gb426, 0, none⟩) (Kd.V_mono HO_421003.out (fun k_ hk => (⟨hk, hk.2⟩ : _ ∧ k_ ≠ gb426))) (fun _ hk => hk.2) (.string ((rd_T33 y422 x20_1).f0))) (fun _ hk => hk.2) (.int .i64 ((rd_T33 y422 x20_1).f1.f0))) (fun _ hk => hk.2) (.int .i64 ((rd_T33 y422 x20_1).f1.f1))) (fun _ hk => hk.2) (.slice A425_3 ((rd_T33 y422 x20_1).f2).length c425_3)) (fun _ h_ => h_.1))) hb); have n3_ := aK (Kd.V_below (by (with_reducible repeat (first | apply Kd.V_alloc | apply Kd.V_drewN | apply Kd.V_drew)); exact (Kd.V_mono (Kd.V_far (p := ⟨gb426, 3, none⟩) (Kd.V_far (p := ⟨gb426, 2, none⟩) (Kd.V_far (p := ⟨gb426, 1, none⟩) (Kd.V_far (p := ⟨gb426, 0, none⟩) (Kd.V_mono HL425_3.out (fun k_ hk => (⟨hk, hk.2⟩ : _ ∧ k_ ≠ gb426))) (fun _ hk => hk.2) (.string ((rd_T33 y422 x20_1).f0))) (fun _ hk => hk.2) (.int .i64 ((rd_T33 y422 x20_1).f1.f0))) (fun _ hk => hk.2) (.int .i64 ((rd_T33 y422 x20_1).f1.f1))) (fun _ hk => hk.2) (.slice A425_3 ((rd_T33 y422 x20_1).f2).length c425_3)) (fun _ h_ => h_.1))) hb); have n4_ := aK (zB (g := gb419) (o := .cells #[.string a0_0, .int .i64 a0_1, .int .i64 a0_2, .slice A0_3 l0_3.length c0_3] 33 (0, 0)) (by refine blk_far ?_ NB419_426.out _; refine blk_far ?_ NB419_426.out _; refine blk_far ?_ NB419_426.out _; refine blk_far ?_ NB419_426.out _; exact BK419.out) hb); have n5_ := aK (zB (g := gb420) (o := .cells #[.string a1_0, .int .i64 a1_1, .int .i64 a1_2, .slice A1_3 l1_3.length c1_3] 33 (0, 0)) (by refine blk_far ?_ NB420_426.out _; refine blk_far ?_ NB420_426.out _; refine blk_far ?_ NB420_426.out _; refine blk_far ?_ NB420_426.out _; exact BK420.out) hb); have n6_ := aK (zB (g := gb421) (o := .cells #[.string x422000_1, .int .i64 x422001_1, .int .i64 x422002_1, .slice none 0 0] 33 (0, 0)) (by refine blk_far ?_ NB421_426.out _; refine blk_far ?_ NB421_426.out _; refine blk_far ?_ NB421_426.out _; refine blk_far ?_ NB421_426.out _; exact BK421.out) hb); have n7_ := aK (Kd.C_below ((Kd.V_reads' (by (with_reducible repeat (first | apply Kd.V_alloc | apply Kd.V_drewN | apply Kd.V_drew)); exact (Kd.V_mono (Kd.V_far (p := ⟨gb426, 3, none⟩) (Kd.V_far (p := ⟨gb426, 2, none⟩) (Kd.V_far (p := ⟨gb426, 1, none⟩) (Kd.V_far (p := ⟨gb426, 0, none⟩) (Kd.V_mono HL425_3.out (fun k_ hk => (⟨hk, hk.2⟩ : _ ∧ k_ ≠ gb426))) (fun _ hk => hk.2) (.string ((rd_T33 y422 x20_1).f0))) (fun _ hk => hk.2) (.int .i64 ((rd_T33 y422 x20_1).f1.f0))) (fun _ hk => hk.2) (.int .i64 ((rd_T33 y422 x20_1).f1.f1))) (fun _ hk => hk.2) (.slice A425_3 ((rd_T33 y422 x20_1).f2).length c425_3)) (fun _ h_ => h_.1)))).2.2) hb); have n8_ := aK (zB (g := gb426) (o := .cells #[.string ((rd_T33 y422 x20_1).f0), .int .i64 ((rd_T33 y422 x20_1).f1.f0), .int .i64 ((rd_T33 y422 x20_1).f1.f1), .slice A425_3 ((rd_T33 y422 x20_1).f2).length c425_3] 33 (0, 0)) (by refine blk_put (cs := #[.string ((rd_T33 y422 x20_1).f0), .int .i64 ((rd_T33 y422 x20_1).f1.f0), .int .i64 ((rd_T33 y422 x20_1).f1.f1), .slice none 0 0]) ?_ 3 _ rfl; refine blk_put (cs := #[.string ((rd_T33 y422 x20_1).f0), .int .i64 ((rd_T33 y422 x20_1).f1.f0), .int .i64 0, .slice none 0 0]) ?_ 2 _ rfl; refine blk_put (cs := #[.string ((rd_T33 y422 x20_1).f0), .int .i64 0, .int .i64 0, .slice none 0 0]) ?_ 1 _ rfl; refine blk_put (cs := #[.string (⟨#[]⟩ : ByteArray), .int .i64 0, .int .i64 0, .slice none 0 0]) ?_ 0 _ rfl; exact BK426.out) hb); have n9_ := aK (yT (by repeat (first | (with_reducible first | exact HB.out | apply yA | apply yN | apply yD | refine yS ?_ GE419.out | refine yS ?_ GE420.out | refine yS ?_ GE421.out | refine yS ?_ GE426.out) | exact HB.out)) hb); clear HO_18; clear HO_420003; clear HO_421003; clear HL425_3; clear BK419; clear BK420; clear BK421; clear HR425_3; clear BK426; clear HB; have HO_18 := n0_; have HO_420003 := n1_; have HO_421003 := n2_; have HL425_3 := n3_; have BK419 := n4_; have BK420 := n5_; have BK421 := n6_; have HR425_3 := n7_; have BK426 := n8_; have HB := n9_; clear n0_ n1_ n2_ n3_ n4_ n5_ n6_ n7_ n8_ n9_; (try clear hb)))
     go_roundg k1
     case measure => have := HK1.out; omega
     case rel => exact ⟨(wrap64 (x20_1 + 1)), (x422000_1), (x422001_1), (x422002_1), (by first | rfl | (simp; done) | (simp [*]; done)), H', ⟨by have := HK1.out; omega⟩, ⟨by (with_reducible repeat (first | apply Kd.N_alloc | apply Kd.N_drewN | apply Kd.N_drew)); exact Kd.N_mono HO_18.out (fun _ hk => ⟨hk.1.1, ⟨hk.1.2.1, ⟨hk.1.2.2.1, hk.1.2.2.2⟩⟩⟩)⟩, ⟨by (with_reducible repeat (first | apply Kd.V_alloc | apply Kd.V_drewN | apply Kd.V_drew)); exact Kd.V_mono HO_420003.out (fun _ hk => ⟨hk.1.1, ⟨hk.1.2.1, ⟨hk.1.2.2.1, ⟨hk.1.2.2.2.1, hk.1.2.2.2.2⟩⟩⟩⟩)⟩, ⟨by (with_reducible repeat (first | apply Kd.V_alloc | apply Kd.V_drewN | apply Kd.V_drew)); exact Kd.V_mono HO_421003.out (fun _ hk => ⟨hk.1.1, ⟨hk.1.2.1, ⟨hk.1.2.2.1, ⟨hk.1.2.2.2.1, hk.1.2.2.2.2⟩⟩⟩⟩)⟩, ⟨BK419.out⟩, ⟨BK420.out⟩, ⟨BK421.out⟩, ⟨HB.out⟩⟩
    rw [if_neg c18] at H
    have c18b0 : (t427 == 0) = false := beq_eq_false_iff_ne.mpr c18
    have c18b1 : (t427 != 0) = true := bne_iff_ne.mpr c18
    simp only [Option.some.injEq, Prod.mk.injEq] at H
    obtain ⟨rfl, rfl, rfl, rfl, rfl⟩ := H
    have p425 : 0 ≤ (x20_1 : Int) := of_decide_eq_true (by assumption)
    have q425 : x20_1 < (y422.length : Int) := of_decide_eq_true (by assumption)
    obtain ⟨ad425, A425_3, c425_3, e425, hx425_0, hx425_1, hx425_2, hx425_3, hl425_3, hi425_3⟩ := at_T33 (Kd.N_reads' HO_18.out).2.2 x20_1 p425 q425
    cases e425
    obtain ⟨ce425, hce425, hMe425, hcc425⟩ := Kd.N_get HO_18.out z33 x20_1 p425 (by first | exact q425 | exact of_decide_eq_true (by assumption) | (have e_ := (Kd.N_reads' HO_18.out).1; omega))
    obtain ⟨ua425_3, uc425_3, rfl, ul425_3, ge425_3⟩ := k33_openF hMe425
    have hv425_3 := hcc425 3 _ rfl
    rw [add_field _ _ 3 (by omega)] at hv425_3
    replace hv425_3 := Option.some.inj (hv425_3.symm.trans hx425_3)
    injection hv425_3 with hva_ hvn_ hvc_
    rw [hva_] at ge425_3
    rw [hvc_] at ul425_3
    have HL425_3 := aK (show Kd.V k48 48 _ w.heap.size _ _ ((rd_T33 y422 x20_1).f2) from Kd.V_mk ul425_3 ge425_3)
    clear hva_ hvn_ hvc_ ge425_3 ul425_3
    clear hcc425 hce425
    have HR425_3 := aK hi425_3
    have HC425_3 := aK hl425_3
    clear hi425_3 hl425_3
    replace p425 := eq_true p425
    replace q425 := eq_true q425
    go_wp2_with (first | ((with_reducible refine gate_dst (N := 7) rfl ?_); refine box_event ?hg (N := 7) ?hd (cs := #[.string (⟨#[]⟩ : ByteArray), .int .i64 0, .int .i64 0, .slice none 0 0]) (t := 33) ?hr ?_; (case hd => rfl); (case hg => rfl); (case hr => first | (go_simp; done) | (go_simp; rfl)); intro gb426 hg w25 hbox hb; have n0_ := aK (Kd.N_below (Kd.N_elderB (HO_18.out) gb426 (Nat.le_of_eq hg.symm)) hb); have n1_ := aK (Kd.V_below (Kd.V_elderB (HO_420003.out) gb426 (Nat.le_of_eq hg.symm)) hb); have n2_ := aK (Kd.V_below (Kd.V_elderB (HO_421003.out) gb426 (Nat.le_of_eq hg.symm)) hb); have n3_ := aK (Kd.V_below (Kd.V_elderB (HL425_3.out) gb426 (Nat.le_of_eq hg.symm)) hb); have n4_ := aK (zB (g := gb419) (o := .cells #[.string a0_0, .int .i64 a0_1, .int .i64 a0_2, .slice A0_3 l0_3.length c0_3] 33 (0, 0)) (BK419.out) hb); have n5_ := aK (zB (g := gb420) (o := .cells #[.string a1_0, .int .i64 a1_1, .int .i64 a1_2, .slice A1_3 l1_3.length c1_3] 33 (0, 0)) (BK420.out) hb); have n6_ := aK (zB (g := gb421) (o := .cells #[.string x422000_1, .int .i64 x422001_1, .int .i64 x422002_1, .slice none 0 0] 33 (0, 0)) (BK421.out) hb); have n7_ := aK (Kd.C_below (by repeat (first | (with_reducible exact HR425_3.out) | (with_reducible refine Kd.C_alloc ?_ _) | (with_reducible refine Kd.C_drewN ?_ _) | (with_reducible refine Kd.C_drew ?_) | exact HR425_3.out)) hb); have ⟨n8_, n10_⟩ := zV (w := w) hb hg (by repeat (first | (with_reducible first | exact HB.out | apply yA | apply yN | apply yD | refine yS ?_ GE419.out | refine yS ?_ GE420.out | refine yS ?_ GE421.out) | exact HB.out)); have n9_ := aK (hbox); have n11_ := n10_; have n12_ := aK ((by rw [hg]; exact Nat.ne_of_lt (blk_lt (g := gb419) (o := .cells #[.string a0_0, .int .i64 a0_1, .int .i64 a0_2, .slice A0_3 l0_3.length c0_3] 33 (0, 0)) (BK419.out)) : gb419 ≠ gb426)); have n13_ := aK ((by rw [hg]; exact Nat.ne_of_gt (blk_lt (g := gb419) (o := .cells #[.string a0_0, .int .i64 a0_1, .int .i64 a0_2, .slice A0_3 l0_3.length c0_3] 33 (0, 0)) (BK419.out)) : gb426 ≠ gb419)); have n14_ := aK ((by rw [hg]; exact Nat.ne_of_lt (blk_lt (g := gb420) (o := .cells #[.string a1_0, .int .i64 a1_1, .int .i64 a1_2, .slice A1_3 l1_3.length c1_3] 33 (0, 0)) (BK420.out)) : gb420 ≠ gb426)); have n15_ := aK ((by rw [hg]; exact Nat.ne_of_gt (blk_lt (g := gb420) (o := .cells #[.string a1_0, .int .i64 a1_1, .int .i64 a1_2, .slice A1_3 l1_3.length c1_3] 33 (0, 0)) (BK420.out)) : gb426 ≠ gb420)); have n16_ := aK ((by rw [hg]; exact Nat.ne_of_lt (blk_lt (g := gb421) (o := .cells #[.string x422000_1, .int .i64 x422001_1, .int .i64 x422002_1, .slice none 0 0] 33 (0, 0)) (BK421.out)) : gb421 ≠ gb426)); have n17_ := aK ((by rw [hg]; exact Nat.ne_of_gt (blk_lt (g := gb421) (o := .cells #[.string x422000_1, .int .i64 x422001_1, .int .i64 x422002_1, .slice none 0 0] 33 (0, 0)) (BK421.out)) : gb426 ≠ gb421)); clear HO_18; clear HO_420003; clear HO_421003; clear HL425_3; clear BK419; clear BK420; clear BK421; clear HR425_3; clear HB; have HO_18 := n0_; have HO_420003 := n1_; have HO_421003 := n2_; have HL425_3 := n3_; have BK419 := n4_; have BK420 := n5_; have BK421 := n6_; have HR425_3 := n7_; have HB := n8_; have BK426 := n9_; have GW426 := n10_; have GE426 := n11_; have NB419_426 := n12_; have NB426_419 := n13_; have NB420_426 := n14_; have NB426_420 := n15_; have NB421_426 := n16_; have NB426_421 := n17_; clear n0_ n1_ n2_ n3_ n4_ n5_ n6_ n7_ n8_ n9_ n10_ n11_ n12_ n13_ n14_ n15_ n16_ n17_; clear hb hbox hg; have hnb26 := NB426_419.out; have hnc26 := NB419_426.out; have hnb27 := NB426_420.out; have hnc27 := NB420_426.out; have hnb28 := NB426_421.out; have hnc28 := NB421_426.out; have hcz29_0 := zI BK426 0 rfl; have hcz29_1 := zI BK426 1 rfl; have hcz29_2 := zI BK426 2 rfl; have hcz29_3 := zI BK426 3 rfl; have hfz29_0 := zF BK426.out 0; have hfz29_1 := zF BK426.out 1; have hfz29_2 := zF BK426.out 2; have hfz29_3 := zF BK426.out 3) | ((with_reducible refine gate_callee (f := 46) rfl ?_); refine goesL_ (some 25) rfl rfl Tryz.func46 (by kernel_rfl) rfl #[.agg #[.string ((rd_T33 y422 x20_1).f0), .int .i64 ((rd_T33 y422 x20_1).f1.f0), .int .i64 ((rd_T33 y422 x20_1).f1.f1), .slice A425_3 ((rd_T33 y422 x20_1).f2).length c425_3]] rfl (by (try simp only [List.map_toArray, List.map_cons, List.map_nil]); first | done | rfl | (simp only [List.length_drop, List.length_take]; rfl)) ?_; (with_reducible refine (boring_formed.calls ((rd_T33 y422 x20_1).f0) ((rd_T33 y422 x20_1).f1.f0) ((rd_T33 y422 x20_1).f1.f1) _ _ ((rd_T33 y422 x20_1).f2) t427 _ ?side1 ?side2 A17.out).mono ?_); (case side1 => repeat (first | exact ((Kd.V_reads' (by (with_reducible repeat (first | apply Kd.V_alloc | apply Kd.V_drewN | apply Kd.V_drew)); exact (Kd.V_mono (Kd.V_far (p := ⟨gb426, 3, none⟩) (Kd.V_far (p := ⟨gb426, 2, none⟩) (Kd.V_far (p := ⟨gb426, 1, none⟩) (Kd.V_far (p := ⟨gb426, 0, none⟩) (Kd.V_mono HL425_3.out (fun k_ hk => (⟨hk, hk.2⟩ : _ ∧ k_ ≠ gb426))) (fun _ hk => hk.2) (.string ((rd_T33 y422 x20_1).f0))) (fun _ hk => hk.2) (.int .i64 ((rd_T33 y422 x20_1).f1.f0))) (fun _ hk => hk.2) (.int .i64 ((rd_T33 y422 x20_1).f1.f1))) (fun _ hk => hk.2) (.slice A425_3 ((rd_T33 y422 x20_1).f2).length c425_3)) (fun _ h_ => h_.1)))).2.2) | (with_reducible refine Kd.C_alloc ?_ _) | (with_reducible refine Kd.C_drewN ?_ _) | (with_reducible refine Kd.C_drew ?_))); (case side2 => exact HC425_3.out); rintro e w30 ⟨rfl, hb⟩; refine ⟨_, rfl, ?_⟩; have n0_ := aK (Kd.N_below (by (with_reducible repeat (first | apply Kd.N_alloc | apply Kd.N_drewN | apply Kd.N_drew)); exact (Kd.N_mono (Kd.N_far (p := ⟨gb426, 3, none⟩) (Kd.N_far (p := ⟨gb426, 2, none⟩) (Kd.N_far (p := ⟨gb426, 1, none⟩) (Kd.N_far (p := ⟨gb426, 0, none⟩) (Kd.N_mono HO_18.out (fun k_ hk => (⟨hk, hk.2⟩ : _ ∧ k_ ≠ gb426))) (fun _ hk => hk.2) (.string ((rd_T33 y422 x20_1).f0))) (fun _ hk => hk.2) (.int .i64 ((rd_T33 y422 x20_1).f1.f0))) (fun _ hk => hk.2) (.int .i64 ((rd_T33 y422 x20_1).f1.f1))) (fun _ hk => hk.2) (.slice A425_3 ((rd_T33 y422 x20_1).f2).length c425_3)) (fun _ h_ => h_.1))) hb); have n1_ := aK (Kd.V_below (by (with_reducible repeat (first | apply Kd.V_alloc | apply Kd.V_drewN | apply Kd.V_drew)); exact (Kd.V_mono (Kd.V_far (p := ⟨gb426, 3, none⟩) (Kd.V_far (p := ⟨gb426, 2, none⟩) (Kd.V_far (p := ⟨gb426, 1, none⟩) (Kd.V_far (p := ⟨gb426, 0, none⟩) (Kd.V_mono HO_420003.out (fun k_ hk => (⟨hk, hk.2⟩ : _ ∧ k_ ≠ gb426))) (fun _ hk => hk.2) (.string ((rd_T33 y422 x20_1).f0))) (fun _ hk => hk.2) (.int .i64 ((rd_T33 y422 x20_1).f1.f0))) (fun _ hk => hk.2) (.int .i64 ((rd_T33 y422 x20_1).f1.f1))) (fun _ hk => hk.2) (.slice A425_3 ((rd_T33 y422 x20_1).f2).length c425_3)) (fun _ h_ => h_.1))) hb); have n2_ := aK (Kd.V_below (by (with_reducible repeat (first | apply Kd.V_alloc | apply Kd.V_drewN | apply Kd.V_drew)); exact (Kd.V_mono (Kd.V_far (p := ⟨gb426, 3, none⟩) (Kd.V_far (p := ⟨gb426, 2, none⟩) (Kd.V_far (p := ⟨gb426, 1, none⟩) (Kd.V_far (p := ⟨gb426, 0, none⟩) (Kd.V_mono HO_421003.out (fun k_ hk => (⟨hk, hk.2⟩ : _ ∧ k_ ≠ gb426))) (fun _ hk => hk.2) (.string ((rd_T33 y422 x20_1).f0))) (fun _ hk => hk.2) (.int .i64 ((rd_T33 y422 x20_1).f1.f0))) (fun _ hk => hk.2) (.int .i64 ((rd_T33 y422 x20_1).f1.f1))) (fun _ hk => hk.2) (.slice A425_3 ((rd_T33 y422 x20_1).f2).length c425_3)) (fun _ h_ => h_.1))) hb); have n3_ := aK (Kd.V_below (by (with_reducible repeat (first | apply Kd.V_alloc | apply Kd.V_drewN | apply Kd.V_drew)); exact (Kd.V_mono (Kd.V_far (p := ⟨gb426, 3, none⟩) (Kd.V_far (p := ⟨gb426, 2, none⟩) (Kd.V_far (p := ⟨gb426, 1, none⟩) (Kd.V_far (p := ⟨gb426, 0, none⟩) (Kd.V_mono HL425_3.out (fun k_ hk => (⟨hk, hk.2⟩ : _ ∧ k_ ≠ gb426))) (fun _ hk => hk.2) (.string ((rd_T33 y422 x20_1).f0))) (fun _ hk => hk.2) (.int .i64 ((rd_T33 y422 x20_1).f1.f0))) (fun _ hk => hk.2) (.int .i64 ((rd_T33 y422 x20_1).f1.f1))) (fun _ hk => hk.2) (.slice A425_3 ((rd_T33 y422 x20_1).f2).length c425_3)) (fun _ h_ => h_.1))) hb); have n4_ := aK (zB (g := gb419) (o := .cells #[.string a0_0, .int .i64 a0_1, .int .i64 a0_2, .slice A0_3 l0_3.length c0_3] 33 (0, 0)) (by refine blk_far ?_ NB419_426.out _; refine blk_far ?_ NB419_426.out _; refine blk_far ?_ NB419_426.out _; refine blk_far ?_ NB419_426.out _; exact BK419.out) hb); have n5_ := aK (zB (g := gb420) (o := .cells #[.string a1_0, .int .i64 a1_1, .int .i64 a1_2, .slice A1_3 l1_3.length c1_3] 33 (0, 0)) (by refine blk_far ?_ NB420_426.out _; refine blk_far ?_ NB420_426.out _; refine blk_far ?_ NB420_426.out _; refine blk_far ?_ NB420_426.out _; exact BK420.out) hb); have n6_ := aK (zB (g := gb421) (o := .cells #[.string x422000_1, .int .i64 x422001_1, .int .i64 x422002_1, .slice none 0 0] 33 (0, 0)) (by refine blk_far ?_ NB421_426.out _; refine blk_far ?_ NB421_426.out _; refine blk_far ?_ NB421_426.out _; refine blk_far ?_ NB421_426.out _; exact BK421.out) hb); have n7_ := aK (Kd.C_below ((Kd.V_reads' (by (with_reducible repeat (first | apply Kd.V_alloc | apply Kd.V_drewN | apply Kd.V_drew)); exact (Kd.V_mono (Kd.V_far (p := ⟨gb426, 3, none⟩) (Kd.V_far (p := ⟨gb426, 2, none⟩) (Kd.V_far (p := ⟨gb426, 1, none⟩) (Kd.V_far (p := ⟨gb426, 0, none⟩) (Kd.V_mono HL425_3.out (fun k_ hk => (⟨hk, hk.2⟩ : _ ∧ k_ ≠ gb426))) (fun _ hk => hk.2) (.string ((rd_T33 y422 x20_1).f0))) (fun _ hk => hk.2) (.int .i64 ((rd_T33 y422 x20_1).f1.f0))) (fun _ hk => hk.2) (.int .i64 ((rd_T33 y422 x20_1).f1.f1))) (fun _ hk => hk.2) (.slice A425_3 ((rd_T33 y422 x20_1).f2).length c425_3)) (fun _ h_ => h_.1)))).2.2) hb); have n8_ := aK (zB (g := gb426) (o := .cells #[.string ((rd_T33 y422 x20_1).f0), .int .i64 ((rd_T33 y422 x20_1).f1.f0), .int .i64 ((rd_T33 y422 x20_1).f1.f1), .slice A425_3 ((rd_T33 y422 x20_1).f2).length c425_3] 33 (0, 0)) (by refine blk_put (cs := #[.string ((rd_T33 y422 x20_1).f0), .int .i64 ((rd_T33 y422 x20_1).f1.f0), .int .i64 ((rd_T33 y422 x20_1).f1.f1), .slice none 0 0]) ?_ 3 _ rfl; refine blk_put (cs := #[.string ((rd_T33 y422 x20_1).f0), .int .i64 ((rd_T33 y422 x20_1).f1.f0), .int .i64 0, .slice none 0 0]) ?_ 2 _ rfl; refine blk_put (cs := #[.string ((rd_T33 y422 x20_1).f0), .int .i64 0, .int .i64 0, .slice none 0 0]) ?_ 1 _ rfl; refine blk_put (cs := #[.string (⟨#[]⟩ : ByteArray), .int .i64 0, .int .i64 0, .slice none 0 0]) ?_ 0 _ rfl; exact BK426.out) hb); have n9_ := aK (yT (by repeat (first | (with_reducible first | exact HB.out | apply yA | apply yN | apply yD | refine yS ?_ GE419.out | refine yS ?_ GE420.out | refine yS ?_ GE421.out | refine yS ?_ GE426.out) | exact HB.out)) hb); clear HO_18; clear HO_420003; clear HO_421003; clear HL425_3; clear BK419; clear BK420; clear BK421; clear HR425_3; clear BK426; clear HB; have HO_18 := n0_; have HO_420003 := n1_; have HO_421003 := n2_; have HL425_3 := n3_; have BK419 := n4_; have BK420 := n5_; have BK421 := n6_; have HR425_3 := n7_; have BK426 := n8_; have HB := n9_; clear n0_ n1_ n2_ n3_ n4_ n5_ n6_ n7_ n8_ n9_; (try clear hb); have hnb31 := NB421_419.out; have hnc31 := NB419_421.out; have hnb32 := NB421_420.out; have hnc32 := NB420_421.out; have hcz33_0 := zI BK421 0 rfl; have hcz33_1 := zI BK421 1 rfl; have hcz33_2 := zI BK421 2 rfl; have hcz33_3 := zI BK421 3 rfl; have hfz33_0 := zF BK421.out 0; have hfz33_1 := zF BK421.out 1; have hfz33_2 := zF BK421.out 2; have hfz33_3 := zF BK421.out 3))
    refine bodyPost_ret (results_ct rfl _ _ gb421 33 #[.string (⟨#[]⟩ : ByteArray), .int .i64 0, .int .i64 0, .slice none 0 0] (0, 0) _ rfl (by refine blk_put (cs := #[.string (⟨#[]⟩ : ByteArray), .int .i64 0, .int .i64 0, .slice none 0 0]) ?_ 3 _ rfl; refine blk_put (cs := #[.string (⟨#[]⟩ : ByteArray), .int .i64 0, .int .i64 x422002_1, .slice none 0 0]) ?_ 2 _ rfl; refine blk_put (cs := #[.string (⟨#[]⟩ : ByteArray), .int .i64 x422001_1, .int .i64 x422002_1, .slice none 0 0]) ?_ 1 _ rfl; refine blk_put (cs := #[.string x422000_1, .int .i64 x422001_1, .int .i64 x422002_1, .slice none 0 0]) ?_ 0 _ rfl; exact BK421.out) Tryz.underlying33 rfl (by kernel_rfl)) rfl ?_
    exact ⟨_, rfl, by first | exact Kd.R_nil _ _ _ _ _ | exact Kd.N_nil _ _ _ _ _ | exact Kd.V_nil _ _ _ _ _ | exact Kd.Q_nil _ _ _ _ _ | exact Kd.S_nil _ _ _ _ _, by repeat (first | (with_reducible first | exact HB.out | apply yA | apply yN | apply yD | refine yS ?_ GE419.out | refine yS ?_ GE420.out | refine yS ?_ GE421.out | refine yS ?_ GE426.out) | exact HB.out)⟩
   rw [if_neg c14] at H
   have c14b0 : decide (x20_1 < (y422.length : Int)) = false := decide_eq_false c14
   clear c14
   by_cases c34 : (!(a0_1 == a1_1) || (!(a0_2 == a1_2))) = true
   ·rw [if_pos c34] at H
    have c34b0 : (!(a0_1 == a1_1) || (!(a0_2 == a1_2))) = true := c34
    clear c34
    simp only [Option.some.injEq, Prod.mk.injEq] at H
    obtain ⟨rfl, rfl, rfl, rfl, rfl⟩ := H
    have hnb35 := NB419_420.out
    have hnc35 := NB420_419.out
    have hnb36 := NB419_421.out
    have hnc36 := NB421_419.out
    have hcz37_0 := zI BK419 0 rfl
    have hcz37_1 := zI BK419 1 rfl
    have hcz37_2 := zI BK419 2 rfl
    have hcz37_3 := zI BK419 3 rfl
    have hfz37_0 := zF BK419.out 0
    have hfz37_1 := zF BK419.out 1
    have hfz37_2 := zF BK419.out 2
    have hfz37_3 := zF BK419.out 3
    have hnb38 := NB420_421.out
    have hnc38 := NB421_420.out
    have hcz39_0 := zI BK420 0 rfl
    have hcz39_1 := zI BK420 1 rfl
    have hcz39_2 := zI BK420 2 rfl
    have hcz39_3 := zI BK420 3 rfl
    have hfz39_0 := zF BK420.out 0
    have hfz39_1 := zF BK420.out 1
    have hfz39_2 := zF BK420.out 2
    have hfz39_3 := zF BK420.out 3
    have hcz40_0 := zI BK421 0 rfl
    have hcz40_1 := zI BK421 1 rfl
    have hcz40_2 := zI BK421 2 rfl
    have hcz40_3 := zI BK421 3 rfl
    have hfz40_0 := zF BK421.out 0
    have hfz40_1 := zF BK421.out 1
    have hfz40_2 := zF BK421.out 2
    have hfz40_3 := zF BK421.out 3
    go_wp2
    refine bodyPost_ret (results_ct rfl _ _ gb421 33 #[.string (⟨#[]⟩ : ByteArray), .int .i64 0, .int .i64 0, .slice none 0 0] (0, 0) _ rfl (by refine blk_put (cs := #[.string (⟨#[]⟩ : ByteArray), .int .i64 0, .int .i64 0, .slice none 0 0]) ?_ 3 _ rfl; refine blk_put (cs := #[.string (⟨#[]⟩ : ByteArray), .int .i64 0, .int .i64 x422002_1, .slice none 0 0]) ?_ 2 _ rfl; refine blk_put (cs := #[.string (⟨#[]⟩ : ByteArray), .int .i64 x422001_1, .int .i64 x422002_1, .slice none 0 0]) ?_ 1 _ rfl; refine blk_put (cs := #[.string x422000_1, .int .i64 x422001_1, .int .i64 x422002_1, .slice none 0 0]) ?_ 0 _ rfl; exact BK421.out) Tryz.underlying33 rfl (by kernel_rfl)) rfl ?_
    exact ⟨_, rfl, by first | exact Kd.R_nil _ _ _ _ _ | exact Kd.N_nil _ _ _ _ _ | exact Kd.V_nil _ _ _ _ _ | exact Kd.Q_nil _ _ _ _ _ | exact Kd.S_nil _ _ _ _ _, by repeat (first | (with_reducible first | exact HB.out | apply yA | apply yN | apply yD | refine yS ?_ GE419.out | refine yS ?_ GE420.out | refine yS ?_ GE421.out) | exact HB.out)⟩
   rw [if_neg c34] at H
   have c34b0 : (!(a0_1 == a1_1) || (!(a0_2 == a1_2))) = false := by simpa using c34
   clear c34
   obtain ⟨y428, hy428⟩ : ∃ y_ : List (List (S48)), y_ = (([l0_3, l1_3] : List (List (S48)))) := ⟨_, rfl⟩
   replace H : ((api_Log_56.f k1 y428).bind fun t431 => (boring_Merge.l1 k1 ([] : List Int) t431 (t431.length : Int) 0 a0_0 a0_1 a0_2 l0_3 a1_0 a1_1 a1_2 l1_3)) = some (r1, r2, r3, r4, r5) := by first | (rw [hy428]; with_reducible exact H) | (have H2_ := (Option.bind_some _ _).symm.trans H; rw [hy428]; with_reducible exact H2_) | (have H2_ := (Option.bind_some _ _).symm.trans H; with_reducible exact H2_) | with_reducible exact H | (rw [hy428]; exact H) | exact H
   have Ny428 := aK hy428
   clear hy428
   replace H := Option.bind_eq_some_iff.mp H
   obtain ⟨t431, A410, H⟩ := H
   replace H : (boring_Merge.l1 k1 ([] : List Int) t431 (t431.length : Int) 0 a0_0 a0_1 a0_2 l0_3 a1_0 a1_1 a1_2 l1_3) = some (r1, r2, r3, r4, r5) := H
   have A41 := aK A410
   clear A410
   have H' := aK H
   clear H
   have hnb42 := NB419_420.out
   have hnc42 := NB420_419.out
   have hnb43 := NB419_421.out
   have hnc43 := NB421_419.out
   have hcz44_0 := zI BK419 0 rfl
   have hcz44_1 := zI BK419 1 rfl
   have hcz44_2 := zI BK419 2 rfl
   have hcz44_3 := zI BK419 3 rfl
   have hfz44_0 := zF BK419.out 0
   have hfz44_1 := zF BK419.out 1
   have hfz44_2 := zF BK419.out 2
   have hfz44_3 := zF BK419.out 3
   have hnb45 := NB420_421.out
   have hnc45 := NB421_420.out
   have hcz46_0 := zI BK420 0 rfl
   have hcz46_1 := zI BK420 1 rfl
   have hcz46_2 := zI BK420 2 rfl
   have hcz46_3 := zI BK420 3 rfl
   have hfz46_0 := zF BK420.out 0
   have hfz46_1 := zF BK420.out 1
   have hfz46_2 := zF BK420.out 2
   have hfz46_3 := zF BK420.out 3
   go_wp2_with (first | ((with_reducible refine gate_dst (N := 41) rfl ?_); refine Kd.N_lit (Kd.slice 48 k48) _ 31 ?hg (N' := 41) ?hd (xs := ([l0_3, l1_3] : List (List (S48)))) (inner := [.slice A0_3 l0_3.length c0_3, .slice A1_3 l1_3.length c1_3]) (ok := (fun k_ => ((P0_3_ k_ ∨ P1_3_ k_) ∨ w.heap.size ≤ k_) ∧ some k_ ≠ (.slice Ao13 y422.length co13 : Value).ownBlock ∧ k_ ≠ gb419 ∧ k_ ≠ gb420 ∧ k_ ≠ gb421)) (okp := (fun k_ => ((P0_3_ k_ ∨ P1_3_ k_) ∨ w.heap.size ≤ k_) ∧ some k_ ≠ (.slice Ao13 y422.length co13 : Value).ownBlock ∧ k_ ≠ gb419 ∧ k_ ≠ gb420 ∧ k_ ≠ gb421)) ?hr ?hp (fun _ hk => hk) ((show ∀ k_, wr.heap.size ≤ k_ → (fun k_ => ((P0_3_ k_ ∨ P1_3_ k_) ∨ w.heap.size ≤ k_) ∧ some k_ ≠ (.slice Ao13 y422.length co13 : Value).ownBlock ∧ k_ ≠ gb419 ∧ k_ ≠ gb420 ∧ k_ ≠ gb421) k_ from fun k_ hk => ⟨(.inr (Nat.le_trans (yZ (HB.out)) hk)), Kd.fresh' (Kd.N_lt (HO_18.out)) k_ hk, Kd.freshB (g := gb419) (o := .cells #[.string a0_0, .int .i64 a0_1, .int .i64 a0_2, .slice A0_3 l0_3.length c0_3] 33 (0, 0)) (BK419.out) k_ hk, Kd.freshB (g := gb420) (o := .cells #[.string a1_0, .int .i64 a1_1, .int .i64 a1_2, .slice A1_3 l1_3.length c1_3] 33 (0, 0)) (BK420.out) k_ hk, Kd.freshB (g := gb421) (o := .cells #[.string x422000_1, .int .i64 x422001_1, .int .i64 x422002_1, .slice none 0 0] 33 (0, 0)) (BK421.out) k_ hk⟩) _ (Nat.le_refl _)) (Below.refl _ _) (Nat.le_refl _) (by simp) ?_; (case hd => rfl); (case hg => rfl); (case hr => first | (go_simp; done) | (go_simp; rfl)); (case hp => exact (Reps.one (show Kd.FK (Kd.slice 48 k48) _ _ l0_3 [.slice A0_3 l0_3.length c0_3] from (Kd.FK_slice_mk (Kd.V_reads' (Kd.V_mono (ok' := (fun k_ => ((P0_3_ k_ ∨ P1_3_ k_) ∨ w.heap.size ≤ k_) ∧ some k_ ≠ (.slice Ao13 y422.length co13 : Value).ownBlock ∧ k_ ≠ gb419 ∧ k_ ≠ gb420 ∧ k_ ≠ gb421)) (HO_420003.out) (fun k_ hk => ⟨hk.1, ⟨hk.2.1, ⟨hk.2.2.1, ⟨hk.2.2.2.1, hk.2.2.2.2⟩⟩⟩⟩))).2.1 (Kd.V_F (Kd.V_mono (ok' := (fun k_ => ((P0_3_ k_ ∨ P1_3_ k_) ∨ w.heap.size ≤ k_) ∧ some k_ ≠ (.slice Ao13 y422.length co13 : Value).ownBlock ∧ k_ ≠ gb419 ∧ k_ ≠ gb420 ∧ k_ ≠ gb421)) (HO_420003.out) (fun k_ hk => ⟨hk.1, ⟨hk.2.1, ⟨hk.2.2.1, ⟨hk.2.2.2.1, hk.2.2.2.2⟩⟩⟩⟩))))) (Reps.one (show Kd.FK (Kd.slice 48 k48) _ _ l1_3 [.slice A1_3 l1_3.length c1_3] from (Kd.FK_slice_mk (Kd.V_reads' (Kd.V_mono (ok' := (fun k_ => ((P0_3_ k_ ∨ P1_3_ k_) ∨ w.heap.size ≤ k_) ∧ some k_ ≠ (.slice Ao13 y422.length co13 : Value).ownBlock ∧ k_ ≠ gb419 ∧ k_ ≠ gb420 ∧ k_ ≠ gb421)) (HO_421003.out) (fun k_ hk => ⟨hk.1, ⟨hk.2.1, ⟨hk.2.2.1, ⟨hk.2.2.2.1, hk.2.2.2.2⟩⟩⟩⟩))).2.1 (Kd.V_F (Kd.V_mono (ok' := (fun k_ => ((P0_3_ k_ ∨ P1_3_ k_) ∨ w.heap.size ≤ k_) ∧ some k_ ≠ (.slice Ao13 y422.length co13 : Value).ownBlock ∧ k_ ≠ gb419 ∧ k_ ≠ gb420 ∧ k_ ≠ gb421)) (HO_421003.out) (fun k_ hk => ⟨hk.1, ⟨hk.2.1, ⟨hk.2.2.1, ⟨hk.2.2.2.1, hk.2.2.2.2⟩⟩⟩⟩))))) (Reps.none _ _)))); intro v429 w47 ho48 hb hg_ hnew_; clear hg_ hnew_; (first | rw [← Ny428.out] at ho48 | (simp only [Int.reduceToNat] at ho48; rw [← Ny428.out] at ho48)); have n0_ := aK (Kd.N_elder' (HO_18.out) (Kd.N_base ho48) hb); have n1_ := aK (Kd.V_elder' (HO_420003.out) (Kd.N_base ho48) hb); have n2_ := aK (Kd.V_elder' (HO_421003.out) (Kd.N_base ho48) hb); have n3_ := aK (Kd.N_lower ho48 (yZ (HB.out))); have n4_ := aK (zB (g := gb419) (o := .cells #[.string a0_0, .int .i64 a0_1, .int .i64 a0_2, .slice A0_3 l0_3.length c0_3] 33 (0, 0)) (BK419.out) hb); have n5_ := aK (zB (g := gb420) (o := .cells #[.string a1_0, .int .i64 a1_1, .int .i64 a1_2, .slice A1_3 l1_3.length c1_3] 33 (0, 0)) (BK420.out) hb); have n6_ := aK (zB (g := gb421) (o := .cells #[.string x422000_1, .int .i64 x422001_1, .int .i64 x422002_1, .slice none 0 0] 33 (0, 0)) (BK421.out) hb); have n7_ := aK (yT (HB.out) hb); clear HO_18; clear HO_420003; clear HO_421003; clear BK419; clear BK420; clear BK421; clear HB; have HO_18 := n0_; have HO_420003 := n1_; have HO_421003 := n2_; have HO430 := n3_; have BK419 := n4_; have BK420 := n5_; have BK421 := n6_; have HB := n7_; clear n0_ n1_ n2_ n3_ n4_ n5_ n6_ n7_; clear hb ho48; obtain ⟨Ao49, co49, eo49⟩ := Kd.N_slice HO430.out; subst eo49) | ((with_reducible refine gate_callee (f := 56) rfl ?_); refine goesL_ (some 42) rfl rfl Tryz.func56 (by kernel_rfl) rfl #[.slice Ao49 y428.length co49] rfl (by (try simp only [List.map_toArray, List.map_cons, List.map_nil]); first | done | rfl | (simp only [List.length_drop, List.length_take]; rfl)) ?_; (with_reducible refine (api_Log_56.calls k1 _ _ y428 t431 _ ?side1 ?side2 A41.out).mono ?_); (case side1 => repeat (first | exact (Kd.N_reads' HO430.out).2.2 | (with_reducible refine Kd.C_alloc ?_ _) | (with_reducible refine Kd.C_drewN ?_ _) | (with_reducible refine Kd.C_drew ?_))); (case side2 => exact (Kd.N_reads' HO430.out).2.1); rintro e w50 ⟨v432, rfl, ho0, hb⟩; refine ⟨_, rfl, ?_⟩; have n0_ := aK (Kd.N_elder' (HO_18.out) (Kd.R_base ho0) hb); have n1_ := aK (Kd.V_elder' (HO_420003.out) (Kd.R_base ho0) hb); have n2_ := aK (Kd.V_elder' (HO_421003.out) (Kd.R_base ho0) hb); have n3_ := aK (Kd.N_elder' (HO430.out) (Kd.R_base ho0) hb); have n4_ := aK (Kd.R_lower (Kd.R_newM (M := fun k_ => (w.heap.size ≤ k_)) ho0 (yZ (HB.out)) (fun k_ h_ => h_)) (yZ (HB.out))); have n5_ := aK (zB (g := gb419) (o := .cells #[.string a0_0, .int .i64 a0_1, .int .i64 a0_2, .slice A0_3 l0_3.length c0_3] 33 (0, 0)) (BK419.out) hb); have n6_ := aK (zB (g := gb420) (o := .cells #[.string a1_0, .int .i64 a1_1, .int .i64 a1_2, .slice A1_3 l1_3.length c1_3] 33 (0, 0)) (BK420.out) hb); have n7_ := aK (zB (g := gb421) (o := .cells #[.string x422000_1, .int .i64 x422001_1, .int .i64 x422002_1, .slice none 0 0] 33 (0, 0)) (BK421.out) hb); have n8_ := aK (yT (HB.out) hb); clear HO_18; clear HO_420003; clear HO_421003; clear HO430; clear BK419; clear BK420; clear BK421; clear HB; have HO_18 := n0_; have HO_420003 := n1_; have HO_421003 := n2_; have HO430 := n3_; have HO433 := n4_; have BK419 := n5_; have BK420 := n6_; have BK421 := n7_; have HB := n8_; clear n0_ n1_ n2_ n3_ n4_ n5_ n6_ n7_ n8_; (try clear hb); (try clear ho0); obtain ⟨Ao51, co51, eo51⟩ := Kd.R_slice HO433.out; subst eo51))
   go_loopg [9, 44] k1 (fun kq v9 v44 w' => ∃ (x9_2 : List Int) (x44_2 : Int), v44 = .int .i64 x44_2 ∧ Aside0 (boring_Merge.l1 kq x9_2 t431 (t431.length : Int) x44_2 a0_0 a0_1 a0_2 l0_3 a1_0 a1_1 a1_2 l1_3 = some (r1, r2, r3, r4, r5)) ∧ Aside0 (kq ≤ k1) ∧ Aside0 (Kd.R (Kd.int .i64) 3 w' w.heap.size (fun k_ => (w.heap.size ≤ k_)) v9 x9_2) ∧ Aside0 (Kd.R k48 48 w' w.heap.size (fun k_ => (w.heap.size ≤ k_)) (.slice Ao51 t431.length co51) t431) ∧ Aside0 (Kd.V k48 48 w' w.heap.size (fun k_ => ((P0_3_ k_ ∨ P1_3_ k_) ∨ w.heap.size ≤ k_) ∧ some k_ ≠ (v9 : Value).ownBlock ∧ some k_ ≠ ((.slice Ao51 t431.length co51) : Value).ownBlock ∧ k_ ≠ gb419 ∧ k_ ≠ gb420 ∧ k_ ≠ gb421) (.slice A0_3 l0_3.length c0_3) l0_3) ∧ Aside0 (Kd.V k48 48 w' w.heap.size (fun k_ => ((P0_3_ k_ ∨ P1_3_ k_) ∨ w.heap.size ≤ k_) ∧ some k_ ≠ (v9 : Value).ownBlock ∧ some k_ ≠ ((.slice Ao51 t431.length co51) : Value).ownBlock ∧ k_ ≠ gb419 ∧ k_ ≠ gb420 ∧ k_ ≠ gb421) (.slice A1_3 l1_3.length c1_3) l1_3) ∧ Aside0 (w'.heap[gb419]? = some (.cells #[.string a0_0, .int .i64 a0_1, .int .i64 a0_2, (.slice A0_3 l0_3.length c0_3)] 33 (0, 0))) ∧ Aside0 (w'.heap[gb420]? = some (.cells #[.string a1_0, .int .i64 a1_1, .int .i64 a1_2, (.slice A1_3 l1_3.length c1_3)] 33 (0, 0))) ∧ Aside0 (w'.heap[gb421]? = some (.cells #[.string x422000_1, .int .i64 x422001_1, .int .i64 x422002_1, (.slice none 0 0)] 33 (0, 0))) ∧ Aside0 (Below w.heap.size w w'))
   case atStart => exact ⟨(([] : List Int)), (0), (by first | rfl | (simp; done) | (simp [*]; done)), H', ⟨Nat.le_refl _⟩, ⟨by first | exact Kd.R_nil _ _ _ _ _ | exact Kd.N_nil _ _ _ _ _ | exact Kd.V_nil _ _ _ _ _ | exact Kd.Q_nil _ _ _ _ _ | exact Kd.S_nil _ _ _ _ _⟩, ⟨by (with_reducible repeat (first | apply Kd.R_alloc | apply Kd.R_drewN | apply Kd.R_drew)); exact Kd.R_mono HO433.out (fun _ hk => hk.1)⟩, ⟨by (with_reducible repeat (first | apply Kd.V_alloc | apply Kd.V_drewN | apply Kd.V_drew)); exact Kd.V_mono HO_420003.out (fun _ hk => ⟨hk.1.1.1, ⟨(by simp [Value.ownBlock]), ⟨hk.2, ⟨hk.1.1.2.2.1, ⟨hk.1.1.2.2.2.1, hk.1.1.2.2.2.2⟩⟩⟩⟩⟩)⟩, ⟨by (with_reducible repeat (first | apply Kd.V_alloc | apply Kd.V_drewN | apply Kd.V_drew)); exact Kd.V_mono HO_421003.out (fun _ hk => ⟨hk.1.1.1, ⟨(by simp [Value.ownBlock]), ⟨hk.2, ⟨hk.1.1.2.2.1, ⟨hk.1.1.2.2.2.1, hk.1.1.2.2.2.2⟩⟩⟩⟩⟩)⟩, ⟨BK419.out⟩, ⟨BK420.out⟩, ⟨BK421.out⟩, ⟨HB.out⟩⟩
   case round =>
    clear H'
    try clear c1
    try clear c2
    try clear p2
    try clear c3
    try clear c4
    try clear p4
    try clear q4
    try clear hx4
    try clear c5
    try clear c6
    try clear p6
    try clear c7
    try clear c9
    try clear c14
    try clear c14b0
    try clear c15
    try clear c15b0
    try clear c16
    try clear c16b0
    try clear c18
    try clear c18b0
    try clear c18b1
    try clear c20
    try clear c21
    try clear c22
    try clear c26
    try clear c27
    try clear c28
    try clear c31
    try clear c32
    try clear c34
    try clear c34b0
    try clear c35
    try clear c36
    try clear c38
    try clear c42
    try clear p42
    try clear q42
    try clear hx42
    try clear c43
    try clear c45
    try clear c46
    try clear hcz10_0
    try clear hcz10_1
    try clear hcz10_2
    try clear hcz10_3
    try clear hcz23_0
    try clear hcz23_1
    try clear hcz23_2
    try clear hcz23_3
    try clear hcz29_0
    try clear hcz29_1
    try clear hcz29_2
    try clear hcz29_3
    try clear hcz33_0
    try clear hcz33_1
    try clear hcz33_2
    try clear hcz33_3
    try clear hcz37_0
    try clear hcz37_1
    try clear hcz37_2
    try clear hcz37_3
    try clear hcz39_0
    try clear hcz39_1
    try clear hcz39_2
    try clear hcz39_3
    try clear hcz40_0
    try clear hcz40_1
    try clear hcz40_2
    try clear hcz40_3
    try clear hcz44_0
    try clear hcz44_1
    try clear hcz44_2
    try clear hcz44_3
    try clear hcz46_0
    try clear hcz46_1
    try clear hcz46_2
    try clear hcz46_3
    try clear hcz8_0
    try clear hcz8_1
    try clear hcz8_2
    try clear hcz8_3
    try clear hfz10_0
    try clear hfz10_1
    try clear hfz10_2
    try clear hfz10_3
    try clear hfz23_0
    try clear hfz23_1
    try clear hfz23_2
    try clear hfz23_3
    try clear hfz29_0
    try clear hfz29_1
    try clear hfz29_2
    try clear hfz29_3
    try clear hfz33_0
    try clear hfz33_1
    try clear hfz33_2
    try clear hfz33_3
    try clear hfz37_0
    try clear hfz37_1
    try clear hfz37_2
    try clear hfz37_3
    try clear hfz39_0
    try clear hfz39_1
    try clear hfz39_2
    try clear hfz39_3
    try clear hfz40_0
    try clear hfz40_1
    try clear hfz40_2
    try clear hfz40_3
    try clear hfz44_0
    try clear hfz44_1
    try clear hfz44_2
    try clear hfz44_3
    try clear hfz46_0
    try clear hfz46_1
    try clear hfz46_2
    try clear hfz46_3
    try clear hfz8_0
    try clear hfz8_1
    try clear hfz8_2
    try clear hfz8_3
    try clear hx425_0
    try clear hx425_1
    try clear hx425_2
    try clear hx425_3
    try clear p2
    try clear p425
    try clear q425
    obtain ⟨x9_2, x44_2, rfl, HA, HK2, HO_9, HO_42, HO_420003, HO_421003, BK419, BK420, BK421, HB⟩ := hrel
    cases gk with
    | zero => exact absurd HA.out (by simp [boring_Merge.l1])
    | succ k2 =>
     have H := HA.out
     clear HA
     simp only [boring_Merge.l1] at H
     by_cases c52 : x44_2 < (t431.length : Int)
     ·rw [if_pos c52] at H
      have c52b0 : decide (x44_2 < (t431.length : Int)) = true := decide_eq_true c52
      clear c52
      by_cases c53 : 0 ≤ x44_2
      rotate_left
      ·rw [if_neg c53] at H
       exact absurd H (by simp)
      rw [if_pos c53] at H
      have c53b0 : decide (0 ≤ x44_2) = true := decide_eq_true c53
      clear c53
      by_cases c54 : x44_2 < (t431.length : Int)
      rotate_left
      ·rw [if_neg c54] at H
       exact absurd H (by simp)
      rw [if_pos c54] at H
      have c54b0 : decide (x44_2 < (t431.length : Int)) = true := decide_eq_true c54
      clear c54
      obtain ⟨y436, hy436⟩ : ∃ y_ : List Int, y_ = (([(rd_T48 t431 x44_2).f0, (rd_T48 t431 x44_2).f1] : List Int)) := ⟨_, rfl⟩
      replace H : (if x9_2.length + y436.length < 17592186044416 then (boring_Merge.l1 k2 (x9_2 ++ y436) t431 (t431.length : Int) (wrap64 (x44_2 + 1)) a0_0 a0_1 a0_2 l0_3 a1_0 a1_1 a1_2 l1_3) else (none)) = some (r1, r2, r3, r4, r5) := by first | (rw [hy436]; with_reducible exact H) | (have H2_ := (Option.bind_some _ _).symm.trans H; rw [hy436]; with_reducible exact H2_) | (have H2_ := (Option.bind_some _ _).symm.trans H; with_reducible exact H2_) | with_reducible exact H | (rw [hy436]; exact H) | exact H
      have Ny436 := aK hy436
      clear hy436
      by_cases c55 : x9_2.length + y436.length < 17592186044416
      rotate_left
      ·rw [if_neg c55] at H
       exact absurd H (by simp)
      rw [if_pos c55] at H
      have LMc55 := aK c55
      clear c55
      obtain ⟨y439, hy439⟩ : ∃ y_ : List Int, y_ = (x9_2 ++ y436) := ⟨_, rfl⟩
      replace H : (boring_Merge.l1 k2 y439 t431 (t431.length : Int) (wrap64 (x44_2 + 1)) a0_0 a0_1 a0_2 l0_3 a1_0 a1_1 a1_2 l1_3) = some (r1, r2, r3, r4, r5) := by first | (rw [hy439]; with_reducible exact H) | (have H2_ := (Option.bind_some _ _).symm.trans H; rw [hy439]; with_reducible exact H2_) | (have H2_ := (Option.bind_some _ _).symm.trans H; with_reducible exact H2_) | with_reducible exact H | (rw [hy439]; exact H) | exact H
      have Ny439 := aK hy439
      clear hy439
      have H' := aK H
      clear H
      have p434 : 0 ≤ (x44_2 : Int) := of_decide_eq_true (by assumption)
      have q434 : x44_2 < (t431.length : Int) := of_decide_eq_true (by assumption)
      obtain ⟨ad434, e434, hx434_0, hx434_1, hx434_2⟩ := at_T48 (Kd.R_reads' HO_42.out).2.2 x44_2 p434 q434
      cases e434
      replace p434 := eq_true p434
      replace q434 := eq_true q434
      go_wp2_with (first | ((with_reducible refine gate_dst (N := 11) rfl ?_); refine box_event ?hg (N := 11) ?hd (cs := #[.int .i64 0, .int .i64 0, .int .i64 0]) (t := 48) ?hr ?_; (case hd => rfl); (case hg => rfl); (case hr => first | (go_simp; done) | (go_simp; rfl)); intro gb435 hg w56 hbox hb; have n0_ := aK (Kd.R_below (HO_9.out) hb); have n1_ := aK (Kd.R_below (Kd.R_elderB (HO_42.out) gb435 (Nat.le_of_eq hg.symm)) hb); have n2_ := aK (Kd.V_below (Kd.V_elderB (HO_420003.out) gb435 (Nat.le_of_eq hg.symm)) hb); have n3_ := aK (Kd.V_below (Kd.V_elderB (HO_421003.out) gb435 (Nat.le_of_eq hg.symm)) hb); have n4_ := aK (zB (g := gb419) (o := .cells #[.string a0_0, .int .i64 a0_1, .int .i64 a0_2, .slice A0_3 l0_3.length c0_3] 33 (0, 0)) (BK419.out) hb); have n5_ := aK (zB (g := gb420) (o := .cells #[.string a1_0, .int .i64 a1_1, .int .i64 a1_2, .slice A1_3 l1_3.length c1_3] 33 (0, 0)) (BK420.out) hb); have n6_ := aK (zB (g := gb421) (o := .cells #[.string x422000_1, .int .i64 x422001_1, .int .i64 x422002_1, .slice none 0 0] 33 (0, 0)) (BK421.out) hb); have ⟨n7_, n9_⟩ := zV (w := w) hb hg (by repeat (first | (with_reducible first | exact HB.out | apply yA | apply yN | apply yD | refine yS ?_ GE419.out | refine yS ?_ GE420.out | refine yS ?_ GE421.out) | exact HB.out)); have n8_ := aK (hbox); have n10_ := n9_; have n11_ := aK ((by rw [hg]; exact Nat.ne_of_lt (blk_lt (g := gb419) (o := .cells #[.string a0_0, .int .i64 a0_1, .int .i64 a0_2, .slice A0_3 l0_3.length c0_3] 33 (0, 0)) (BK419.out)) : gb419 ≠ gb435)); have n12_ := aK ((by rw [hg]; exact Nat.ne_of_gt (blk_lt (g := gb419) (o := .cells #[.string a0_0, .int .i64 a0_1, .int .i64 a0_2, .slice A0_3 l0_3.length c0_3] 33 (0, 0)) (BK419.out)) : gb435 ≠ gb419)); have n13_ := aK ((by rw [hg]; exact Nat.ne_of_lt (blk_lt (g := gb420) (o := .cells #[.string a1_0, .int .i64 a1_1, .int .i64 a1_2, .slice A1_3 l1_3.length c1_3] 33 (0, 0)) (BK420.out)) : gb420 ≠ gb435)); have n14_ := aK ((by rw [hg]; exact Nat.ne_of_gt (blk_lt (g := gb420) (o := .cells #[.string a1_0, .int .i64 a1_1, .int .i64 a1_2, .slice A1_3 l1_3.length c1_3] 33 (0, 0)) (BK420.out)) : gb435 ≠ gb420)); have n15_ := aK ((by rw [hg]; exact Nat.ne_of_lt (blk_lt (g := gb421) (o := .cells #[.string x422000_1, .int .i64 x422001_1, .int .i64 x422002_1, .slice none 0 0] 33 (0, 0)) (BK421.out)) : gb421 ≠ gb435)); have n16_ := aK ((by rw [hg]; exact Nat.ne_of_gt (blk_lt (g := gb421) (o := .cells #[.string x422000_1, .int .i64 x422001_1, .int .i64 x422002_1, .slice none 0 0] 33 (0, 0)) (BK421.out)) : gb435 ≠ gb421)); clear HO_9; clear HO_42; clear HO_420003; clear HO_421003; clear BK419; clear BK420; clear BK421; clear HB; have HO_9 := n0_; have HO_42 := n1_; have HO_420003 := n2_; have HO_421003 := n3_; have BK419 := n4_; have BK420 := n5_; have BK421 := n6_; have HB := n7_; have BK435 := n8_; have GW435 := n9_; have GE435 := n10_; have NB419_435 := n11_; have NB435_419 := n12_; have NB420_435 := n13_; have NB435_420 := n14_; have NB421_435 := n15_; have NB435_421 := n16_; clear n0_ n1_ n2_ n3_ n4_ n5_ n6_ n7_ n8_ n9_ n10_ n11_ n12_ n13_ n14_ n15_ n16_; clear hb hbox hg; have hnb57 := NB435_419.out; have hnc57 := NB419_435.out; have hnb58 := NB435_420.out; have hnc58 := NB420_435.out; have hnb59 := NB435_421.out; have hnc59 := NB421_435.out; have hcz60_0 := zI BK435 0 rfl; have hcz60_1 := zI BK435 1 rfl; have hcz60_2 := zI BK435 2 rfl; have hfz60_0 := zF BK435.out 0; have hfz60_1 := zF BK435.out 1; have hfz60_2 := zF BK435.out 2) | ((with_reducible refine gate_dst (N := 53) rfl ?_); refine Kd.R_lit (Kd.int .i64) _ 3 ?hg (N := 53) ?hd (xs := ([(rd_T48 t431 x44_2).f0, (rd_T48 t431 x44_2).f1] : List Int)) (inner := [.int .i64 ((rd_T48 t431 x44_2).f0), .int .i64 ((rd_T48 t431 x44_2).f1)]) (ok := fun _ => True) (okp := fun _ => True) ?hr ?hp (fun _ hk => hk) trivial (Below.refl _ _) (Nat.le_refl _) (by simp) ?_; (case hd => rfl); (case hg => rfl); (case hr => first | (go_simp; done) | (go_simp; rfl)); (case hp => exact (Reps.one (show Kd.M (Kd.int .i64) _ _ _ ((rd_T48 t431 x44_2).f0) [.int .i64 ((rd_T48 t431 x44_2).f0)] from rfl) (Reps.one (show Kd.M (Kd.int .i64) _ _ _ ((rd_T48 t431 x44_2).f1) [.int .i64 ((rd_T48 t431 x44_2).f1)] from rfl) (Reps.none _ _)))); intro v437 w61 ho62 hb hg_ hnew_; clear hg_ hnew_; (first | rw [← Ny436.out] at ho62 | (simp only [Int.reduceToNat] at ho62; rw [← Ny436.out] at ho62)); have n0_ := aK (Kd.R_elder' (by (with_reducible repeat (first | apply Kd.R_alloc | apply Kd.R_drewN | apply Kd.R_drew)); exact (Kd.R_mono (Kd.R_far (p := ⟨gb435, 2, none⟩) (Kd.R_far (p := ⟨gb435, 1, none⟩) (Kd.R_far (p := ⟨gb435, 0, none⟩) (Kd.R_types HO_9.out BK435.out (by decide)) (fun _ hk => hk.2) (.int .i64 ((rd_T48 t431 x44_2).f0))) (fun _ hk => hk.2) (.int .i64 ((rd_T48 t431 x44_2).f1))) (fun _ hk => hk.2) (.int .i64 ((rd_T48 t431 x44_2).f2))) (fun _ h_ => h_.1))) (Kd.R_base ho62) hb); have n1_ := aK (Kd.R_below (by (with_reducible repeat (first | apply Kd.R_alloc | apply Kd.R_drewN | apply Kd.R_drew)); exact (Kd.R_mono (Kd.R_far (p := ⟨gb435, 2, none⟩) (Kd.R_far (p := ⟨gb435, 1, none⟩) (Kd.R_far (p := ⟨gb435, 0, none⟩) (Kd.R_mono HO_42.out (fun k_ hk => (⟨hk, hk.2⟩ : _ ∧ k_ ≠ gb435))) (fun _ hk => hk.2) (.int .i64 ((rd_T48 t431 x44_2).f0))) (fun _ hk => hk.2) (.int .i64 ((rd_T48 t431 x44_2).f1))) (fun _ hk => hk.2) (.int .i64 ((rd_T48 t431 x44_2).f2))) (fun _ h_ => h_.1))) hb); have n2_ := aK (Kd.V_elder' (by (with_reducible repeat (first | apply Kd.V_alloc | apply Kd.V_drewN | apply Kd.V_drew)); exact (Kd.V_mono (Kd.V_far (p := ⟨gb435, 2, none⟩) (Kd.V_far (p := ⟨gb435, 1, none⟩) (Kd.V_far (p := ⟨gb435, 0, none⟩) (Kd.V_mono HO_420003.out (fun k_ hk => (⟨hk, hk.2⟩ : _ ∧ k_ ≠ gb435))) (fun _ hk => hk.2) (.int .i64 ((rd_T48 t431 x44_2).f0))) (fun _ hk => hk.2) (.int .i64 ((rd_T48 t431 x44_2).f1))) (fun _ hk => hk.2) (.int .i64 ((rd_T48 t431 x44_2).f2))) (fun _ h_ => h_.1))) (Kd.R_base ho62) hb); have n3_ := aK (Kd.V_elder' (by (with_reducible repeat (first | apply Kd.V_alloc | apply Kd.V_drewN | apply Kd.V_drew)); exact (Kd.V_mono (Kd.V_far (p := ⟨gb435, 2, none⟩) (Kd.V_far (p := ⟨gb435, 1, none⟩) (Kd.V_far (p := ⟨gb435, 0, none⟩) (Kd.V_mono HO_421003.out (fun k_ hk => (⟨hk, hk.2⟩ : _ ∧ k_ ≠ gb435))) (fun _ hk => hk.2) (.int .i64 ((rd_T48 t431 x44_2).f0))) (fun _ hk => hk.2) (.int .i64 ((rd_T48 t431 x44_2).f1))) (fun _ hk => hk.2) (.int .i64 ((rd_T48 t431 x44_2).f2))) (fun _ h_ => h_.1))) (Kd.R_base ho62) hb); have n4_ := aK (Kd.R_lower (Kd.R_new' (Kd.R_newM (M := fun k_ => (w.heap.size ≤ k_)) ho62 (yZ (by repeat (first | (with_reducible first | exact HB.out | apply yA | apply yN | apply yD | refine yS ?_ GE419.out | refine yS ?_ GE420.out | refine yS ?_ GE421.out | refine yS ?_ GE435.out) | exact HB.out))) (fun k_ h_ => h_)) (Kd.R_lt (by (with_reducible repeat (first | apply Kd.R_alloc | apply Kd.R_drewN | apply Kd.R_drew)); exact (Kd.R_mono (Kd.R_far (p := ⟨gb435, 2, none⟩) (Kd.R_far (p := ⟨gb435, 1, none⟩) (Kd.R_far (p := ⟨gb435, 0, none⟩) (Kd.R_types HO_9.out BK435.out (by decide)) (fun _ hk => hk.2) (.int .i64 ((rd_T48 t431 x44_2).f0))) (fun _ hk => hk.2) (.int .i64 ((rd_T48 t431 x44_2).f1))) (fun _ hk => hk.2) (.int .i64 ((rd_T48 t431 x44_2).f2))) (fun _ h_ => h_.1))))) (yZ (by repeat (first | (with_reducible first | exact HB.out | apply yA | apply yN | apply yD | refine yS ?_ GE419.out | refine yS ?_ GE420.out | refine yS ?_ GE421.out | refine yS ?_ GE435.out) | exact HB.out)))); have n5_ := aK (zB (g := gb419) (o := .cells #[.string a0_0, .int .i64 a0_1, .int .i64 a0_2, .slice A0_3 l0_3.length c0_3] 33 (0, 0)) (by refine blk_far ?_ NB419_435.out _; refine blk_far ?_ NB419_435.out _; refine blk_far ?_ NB419_435.out _; exact BK419.out) hb); have n6_ := aK (zB (g := gb420) (o := .cells #[.string a1_0, .int .i64 a1_1, .int .i64 a1_2, .slice A1_3 l1_3.length c1_3] 33 (0, 0)) (by refine blk_far ?_ NB420_435.out _; refine blk_far ?_ NB420_435.out _; refine blk_far ?_ NB420_435.out _; exact BK420.out) hb); have n7_ := aK (zB (g := gb421) (o := .cells #[.string x422000_1, .int .i64 x422001_1, .int .i64 x422002_1, .slice none 0 0] 33 (0, 0)) (by refine blk_far ?_ NB421_435.out _; refine blk_far ?_ NB421_435.out _; refine blk_far ?_ NB421_435.out _; exact BK421.out) hb); have n8_ := aK (zB (g := gb435) (o := .cells #[.int .i64 ((rd_T48 t431 x44_2).f0), .int .i64 ((rd_T48 t431 x44_2).f1), .int .i64 ((rd_T48 t431 x44_2).f2)] 48 (0, 0)) (by refine blk_put (cs := #[.int .i64 ((rd_T48 t431 x44_2).f0), .int .i64 ((rd_T48 t431 x44_2).f1), .int .i64 0]) ?_ 2 _ rfl; refine blk_put (cs := #[.int .i64 ((rd_T48 t431 x44_2).f0), .int .i64 0, .int .i64 0]) ?_ 1 _ rfl; refine blk_put (cs := #[.int .i64 0, .int .i64 0, .int .i64 0]) ?_ 0 _ rfl; exact BK435.out) hb); have n9_ := aK (yT (by repeat (first | (with_reducible first | exact HB.out | apply yA | apply yN | apply yD | refine yS ?_ GE419.out | refine yS ?_ GE420.out | refine yS ?_ GE421.out | refine yS ?_ GE435.out) | exact HB.out)) hb); clear HO_9; clear HO_42; clear HO_420003; clear HO_421003; clear BK419; clear BK420; clear BK421; clear BK435; clear HB; have HO_9 := n0_; have HO_42 := n1_; have HO_420003 := n2_; have HO_421003 := n3_; have HO438 := n4_; have BK419 := n5_; have BK420 := n6_; have BK421 := n7_; have BK435 := n8_; have HB := n9_; clear n0_ n1_ n2_ n3_ n4_ n5_ n6_ n7_ n8_ n9_; clear hb ho62; obtain ⟨Ao64, co64, eo64⟩ := Kd.R_slice HO438.out; subst eo64) | ((with_reducible refine gate_builtin (b := .append) (xs := #[.tmp 48, .tmp 53]) rfl ?_); at_builtin; refine Kd.R_append_rows (Kd.int .i64) (w0 := w) w.heap.size rfl (.tmp 48) (.tmp 53) 104 3 (.int .i64 0) 8 rfl Tryz.underlying104 info3 rfl (by decide) (by omega) u9 x9_2 y436 _ _ _ (fun k_ => (w.heap.size ≤ k_) ∧ some k_ ≠ (.slice Ao64 y436.length co64 : Value).ownBlock) (fun _ => False) rfl rfl ?aO ?aR (fun _ _ h => h) (fun _ h => h.elim) ?aF ?aB ?aS ?aL ?_; (case aR => repeat (first | exact (Kd.R_reads' HO438.out).2.2 | (with_reducible refine Kd.C_alloc ?_ _) | (with_reducible refine Kd.C_drewN ?_ _) | (with_reducible refine Kd.C_drew ?_))); (case aB => exact (by repeat (first | (with_reducible first | exact HB.out | apply yA | apply yN | apply yD | refine yS ?_ GE419.out | refine yS ?_ GE420.out | refine yS ?_ GE421.out | refine yS ?_ GE435.out) | exact HB.out))); (case aF => exact (fun k_ hk => ⟨(Nat.le_trans (yZ (by repeat (first | (with_reducible first | exact HB.out | apply yA | apply yN | apply yD | refine yS ?_ GE419.out | refine yS ?_ GE420.out | refine yS ?_ GE421.out | refine yS ?_ GE435.out) | exact HB.out))) hk), Kd.fresh' (Kd.R_lt (HO438.out)) k_ hk⟩)); (case aO => exact (HO_9.out)); (case aS => exact (yZ (by repeat (first | (with_reducible first | exact HB.out | apply yA | apply yN | apply yD | refine yS ?_ GE419.out | refine yS ?_ GE420.out | refine yS ?_ GE421.out | refine yS ?_ GE435.out) | exact HB.out)))); (case aL => have := LMc55.out; omega); intro v440 w63 ho hb hg hat; rw [← Ny439.out] at ho; have n0_ := aK (Kd.R_over' (HO_42.out) (Kd.R_typed (HO_9.out)) (by decide) hg); have n1_ := aK (Kd.V_afterv (ok := (fun k_ => ((P0_3_ k_ ∨ P1_3_ k_) ∨ w.heap.size ≤ k_) ∧ some k_ ≠ (.slice (some ad434) t431.length co51 : Value).ownBlock ∧ some k_ ≠ (.slice Ao64 y436.length co64 : Value).ownBlock ∧ k_ ≠ gb419 ∧ k_ ≠ gb420 ∧ k_ ≠ gb421 ∧ k_ ≠ gb435)) (by (with_reducible repeat (first | apply Kd.V_alloc | apply Kd.V_drewN | apply Kd.V_drew)); exact Kd.V_mono HO_420003.out (fun _ hk => ⟨⟨hk.1.1.1, ⟨hk.1.1.2.2.1, ⟨hk.2, ⟨hk.1.1.2.2.2.1, ⟨hk.1.1.2.2.2.2.1, ⟨hk.1.1.2.2.2.2.2, hk.1.2⟩⟩⟩⟩⟩⟩, hk.1.1.2.1⟩)) hg hat); have n2_ := aK (Kd.V_afterv (ok := (fun k_ => ((P0_3_ k_ ∨ P1_3_ k_) ∨ w.heap.size ≤ k_) ∧ some k_ ≠ (.slice (some ad434) t431.length co51 : Value).ownBlock ∧ some k_ ≠ (.slice Ao64 y436.length co64 : Value).ownBlock ∧ k_ ≠ gb419 ∧ k_ ≠ gb420 ∧ k_ ≠ gb421 ∧ k_ ≠ gb435)) (by (with_reducible repeat (first | apply Kd.V_alloc | apply Kd.V_drewN | apply Kd.V_drew)); exact Kd.V_mono HO_421003.out (fun _ hk => ⟨⟨hk.1.1.1, ⟨hk.1.1.2.2.1, ⟨hk.2, ⟨hk.1.1.2.2.2.1, ⟨hk.1.1.2.2.2.2.1, ⟨hk.1.1.2.2.2.2.2, hk.1.2⟩⟩⟩⟩⟩⟩, hk.1.1.2.1⟩)) hg hat); have n3_ := aK (blk_grown (g := gb419) (o := .cells #[.string a0_0, .int .i64 a0_1, .int .i64 a0_2, .slice A0_3 l0_3.length c0_3] 33 (0, 0)) (BK419.out) hg (Kd.R_ne HO_9.out BK419.out (by decide))); have n4_ := aK (blk_grown (g := gb420) (o := .cells #[.string a1_0, .int .i64 a1_1, .int .i64 a1_2, .slice A1_3 l1_3.length c1_3] 33 (0, 0)) (BK420.out) hg (Kd.R_ne HO_9.out BK420.out (by decide))); have n5_ := aK (blk_grown (g := gb421) (o := .cells #[.string x422000_1, .int .i64 x422001_1, .int .i64 x422002_1, .slice none 0 0] 33 (0, 0)) (BK421.out) hg (Kd.R_ne HO_9.out BK421.out (by decide))); have n6_ := aK (blk_grown (g := gb435) (o := .cells #[.int .i64 ((rd_T48 t431 x44_2).f0), .int .i64 ((rd_T48 t431 x44_2).f1), .int .i64 ((rd_T48 t431 x44_2).f2)] 48 (0, 0)) (BK435.out) hg (Kd.R_ne HO_9.out BK435.out (by decide))); have n7_ := aK (Kd.R_after (ok := (fun k_ => (w.heap.size ≤ k_))) (by (with_reducible repeat (first | apply Kd.R_alloc | apply Kd.R_drewN | apply Kd.R_drew)); exact Kd.R_mono HO438.out (fun _ hk => ⟨hk.1.1, hk.2⟩)) hg hat); have n8_ := aK (hb); have n9_ := aK (ho); clear HO_42; clear HO_420003; clear HO_421003; clear BK419; clear BK420; clear BK421; clear BK435; clear HO438; clear HB; clear HO_9; have HO_42 := n0_; have HO_420003 := n1_; have HO_421003 := n2_; have BK419 := n3_; have BK420 := n4_; have BK421 := n5_; have BK435 := n6_; have HO438 := n7_; have HB := n8_; have HO441 := n9_; clear n0_ n1_ n2_ n3_ n4_ n5_ n6_ n7_ n8_ n9_; clear ho hb hg hat))
      go_roundg k2
      case measure => have := HK1.out; have := HK2.out; omega
      case rel => exact ⟨(y439), (wrap64 (x44_2 + 1)), (by first | rfl | (simp; done) | (simp [*]; done)), H', ⟨by have := HK1.out; have := HK2.out; omega⟩, ⟨by (with_reducible repeat (first | apply Kd.R_alloc | apply Kd.R_drewN | apply Kd.R_drew)); exact Kd.R_mono HO441.out (fun _ hk => hk.1)⟩, ⟨by (with_reducible repeat (first | apply Kd.R_alloc | apply Kd.R_drewN | apply Kd.R_drew)); exact Kd.R_mono HO_42.out (fun _ hk => hk.1)⟩, ⟨by (with_reducible repeat (first | apply Kd.V_alloc | apply Kd.V_drewN | apply Kd.V_drew)); exact Kd.V_mono HO_420003.out (fun _ hk => ⟨hk.1.1, ⟨hk.2, ⟨hk.1.2.1, ⟨hk.1.2.2.2.1, ⟨hk.1.2.2.2.2.1, hk.1.2.2.2.2.2.1⟩⟩⟩⟩⟩)⟩, ⟨by (with_reducible repeat (first | apply Kd.V_alloc | apply Kd.V_drewN | apply Kd.V_drew)); exact Kd.V_mono HO_421003.out (fun _ hk => ⟨hk.1.1, ⟨hk.2, ⟨hk.1.2.1, ⟨hk.1.2.2.2.1, ⟨hk.1.2.2.2.2.1, hk.1.2.2.2.2.2.1⟩⟩⟩⟩⟩)⟩, ⟨BK419.out⟩, ⟨BK420.out⟩, ⟨BK421.out⟩, ⟨HB.out⟩⟩
     rw [if_neg c52] at H
     have c52b0 : decide (x44_2 < (t431.length : Int)) = false := decide_eq_false c52
     clear c52
     replace H := Option.bind_eq_some_iff.mp H
     obtain ⟨t442, A650, H⟩ := H
     replace H : ((slices_Compact_int.f t442).bind fun t443 => (boring_Merge.l2 k2 t443 ([] : List (S48)) 1 a0_0 a0_1 a0_2 l0_3 a1_0 a1_1 a1_2 l1_3)) = some (r1, r2, r3, r4, r5) := H
     have A65 := aK A650
     clear A650
     replace H := Option.bind_eq_some_iff.mp H
     obtain ⟨t443, A660, H⟩ := H
     replace H : (boring_Merge.l2 k2 t443 ([] : List (S48)) 1 a0_0 a0_1 a0_2 l0_3 a1_0 a1_1 a1_2 l1_3) = some (r1, r2, r3, r4, r5) := H
     have A66 := aK A660
     clear A660
     have H' := aK H
     clear H
     obtain ⟨Ao67, co67, eo67⟩ := Kd.R_slice HO_9.out
     subst eo67
     go_wp2_with (first | ((with_reducible refine gate_callee (f := 57) rfl ?_); refine goesL_ (some 57) rfl rfl Tryz.func57 (by kernel_rfl) rfl #[.slice Ao67 x9_2.length co67] rfl (by (try simp only [List.map_toArray, List.map_cons, List.map_nil]); first | done | rfl | (simp only [List.length_drop, List.length_take]; rfl)) ?_; (with_reducible refine (slices_Sort_int.calls (fun k_ => some k_ = (.slice Ao67 x9_2.length co67 : Value).ownBlock) (.slice Ao67 x9_2.length co67) x9_2 t442 w _ ?side1 ?side2 A65.out).mono ?_); (case side1 => repeat (first | (with_reducible first | exact HB.out | apply yA | apply yN | apply yD | refine yS ?_ GE419.out | refine yS ?_ GE420.out | refine yS ?_ GE421.out) | exact HB.out)); (case side2 => exact Kd.R_tight rfl HO_9.out); rintro e w68 ⟨rfl, hy0, hb, hkp⟩; refine ⟨_, rfl, ?_⟩; have n0_ := aK (Kd.R_reok rfl hy0 (fun k_ e_ => HO_9.out.1 k_ e_)); have n1_ := aK (Kd.R_mono (ok' := fun k_ => (w.heap.size ≤ k_)) (Kd.R_keptB ((Kd.R_apart' HO_42.out (Kd.R_typed HO_9.out) (by decide))) hkp (fun k_ hk_ hs_ => (hk_.2) hs_)) (fun k_ hk_ => hk_.1.1)); have n2_ := aK (Kd.V_mono (ok' := fun k_ => ((P0_3_ k_ ∨ P1_3_ k_) ∨ w.heap.size ≤ k_) ∧ some k_ ≠ (.slice Ao67 x9_2.length co67 : Value).ownBlock ∧ some k_ ≠ (.slice Ao51 t431.length co51 : Value).ownBlock ∧ k_ ≠ gb419 ∧ k_ ≠ gb420 ∧ k_ ≠ gb421) (Kd.V_keptB (HO_420003.out) hkp (fun k_ hk_ hs_ => (hk_.2.1) hs_)) (fun k_ hk_ => ⟨hk_.1.1, hk_.1.2.1, hk_.1.2.2.1, hk_.1.2.2.2.1, hk_.1.2.2.2.2.1, hk_.1.2.2.2.2.2⟩)); have n3_ := aK (Kd.V_mono (ok' := fun k_ => ((P0_3_ k_ ∨ P1_3_ k_) ∨ w.heap.size ≤ k_) ∧ some k_ ≠ (.slice Ao67 x9_2.length co67 : Value).ownBlock ∧ some k_ ≠ (.slice Ao51 t431.length co51 : Value).ownBlock ∧ k_ ≠ gb419 ∧ k_ ≠ gb420 ∧ k_ ≠ gb421) (Kd.V_keptB (HO_421003.out) hkp (fun k_ hk_ hs_ => (hk_.2.1) hs_)) (fun k_ hk_ => ⟨hk_.1.1, hk_.1.2.1, hk_.1.2.2.1, hk_.1.2.2.2.1, hk_.1.2.2.2.2.1, hk_.1.2.2.2.2.2⟩)); have n4_ := aK (blk_kept (BK419.out) hkp (fun hs_ => (fun e_ => (Kd.R_ne HO_9.out BK419.out (by decide)) e_) hs_)); have n5_ := aK (blk_kept (BK420.out) hkp (fun hs_ => (fun e_ => (Kd.R_ne HO_9.out BK420.out (by decide)) e_) hs_)); have n6_ := aK (blk_kept (BK421.out) hkp (fun hs_ => (fun e_ => (Kd.R_ne HO_9.out BK421.out (by decide)) e_) hs_)); have n7_ := aK (hb); clear HO_9; clear HO_42; clear HO_420003; clear HO_421003; clear BK419; clear BK420; clear BK421; clear HB; have HO_9 := n0_; have HO_42 := n1_; have HO_420003 := n2_; have HO_421003 := n3_; have BK419 := n4_; have BK420 := n5_; have BK421 := n6_; have HB := n7_; clear n0_ n1_ n2_ n3_ n4_ n5_ n6_ n7_; (try clear hb); (try clear hkp); (try clear hy0)) | ((with_reducible refine gate_callee (f := 58) rfl ?_); refine goesL_ (some 59) rfl rfl Tryz.func58 (by kernel_rfl) rfl #[.slice Ao67 x9_2.length co67] rfl (by (try simp only [List.map_toArray, List.map_cons, List.map_nil]); first | done | rfl | (simp only [List.length_drop, List.length_take]; rfl)) ?_; (with_reducible refine (slices_Compact_int.calls (fun k_ => some k_ = (.slice Ao67 x9_2.length co67 : Value).ownBlock) (.slice Ao67 x9_2.length co67) t442 t443 w _ ?side1 ?side2 A66.out).mono ?_); (case side1 => repeat (first | (with_reducible first | exact HB.out | apply yA | apply yN | apply yD | refine yS ?_ GE419.out | refine yS ?_ GE420.out | refine yS ?_ GE421.out) | exact HB.out)); (case side2 => exact Kd.R_tight rfl HO_9.out); rintro e w69 ⟨v444, rfl, ho0, hb, hkp⟩; refine ⟨_, rfl, ?_⟩; have n0_ := aK (Kd.R_mono (ok' := fun k_ => (w.heap.size ≤ k_)) (Kd.R_keptB ((Kd.R_apart' HO_42.out (Kd.R_typed HO_9.out) (by decide))) hkp (fun k_ hk_ hs_ => (hk_.2) hs_)) (fun k_ hk_ => hk_.1.1)); have n1_ := aK (Kd.V_mono (ok' := fun k_ => ((P0_3_ k_ ∨ P1_3_ k_) ∨ w.heap.size ≤ k_) ∧ some k_ ≠ (.slice Ao51 t431.length co51 : Value).ownBlock ∧ k_ ≠ gb419 ∧ k_ ≠ gb420 ∧ k_ ≠ gb421 ∧ some k_ ≠ (v444 : Value).ownBlock) (Kd.V_keptB (HO_420003.out) hkp (fun k_ hk_ hs_ => (hk_.2.1) hs_)) (fun k_ hk_ => ⟨hk_.1.1, hk_.1.2.2.1, hk_.1.2.2.2.1, hk_.1.2.2.2.2.1, hk_.1.2.2.2.2.2, fun e_ => Or.elim (ho0.1 k_ e_.symm) (fun hs_ => hk_.2.1 hs_) (fun hn_ => Nat.not_le.2 hk_.2.2 hn_)⟩)); have n2_ := aK (Kd.V_mono (ok' := fun k_ => ((P0_3_ k_ ∨ P1_3_ k_) ∨ w.heap.size ≤ k_) ∧ some k_ ≠ (.slice Ao51 t431.length co51 : Value).ownBlock ∧ k_ ≠ gb419 ∧ k_ ≠ gb420 ∧ k_ ≠ gb421 ∧ some k_ ≠ (v444 : Value).ownBlock) (Kd.V_keptB (HO_421003.out) hkp (fun k_ hk_ hs_ => (hk_.2.1) hs_)) (fun k_ hk_ => ⟨hk_.1.1, hk_.1.2.2.1, hk_.1.2.2.2.1, hk_.1.2.2.2.2.1, hk_.1.2.2.2.2.2, fun e_ => Or.elim (ho0.1 k_ e_.symm) (fun hs_ => hk_.2.1 hs_) (fun hn_ => Nat.not_le.2 hk_.2.2 hn_)⟩)); have n3_ := aK (blk_kept (BK419.out) hkp (fun hs_ => (fun e_ => (Kd.R_ne HO_9.out BK419.out (by decide)) e_) hs_)); have n4_ := aK (blk_kept (BK420.out) hkp (fun hs_ => (fun e_ => (Kd.R_ne HO_9.out BK420.out (by decide)) e_) hs_)); have n5_ := aK (blk_kept (BK421.out) hkp (fun hs_ => (fun e_ => (Kd.R_ne HO_9.out BK421.out (by decide)) e_) hs_)); have n6_ := aK (Kd.R_mono (ok' := fun k_ => (w.heap.size ≤ k_)) ho0 (fun k_ hk_ => Or.elim hk_ (fun hs_ => (HO_9.out.1 k_ (hs_).symm)) (fun hn_ => (Nat.le_trans (yZ (HB.out)) hn_)))); have n7_ := aK (hb); clear HO_42; clear HO_420003; clear HO_421003; clear BK419; clear BK420; clear BK421; clear HB; clear HO_9; have HO_42 := n0_; have HO_420003 := n1_; have HO_421003 := n2_; have BK419 := n3_; have BK420 := n4_; have BK421 := n5_; have HO445 := n6_; have HB := n7_; clear n0_ n1_ n2_ n3_ n4_ n5_ n6_ n7_; (try clear hb); (try clear hkp); (try clear ho0)))
     go_loopg [12, 13] k2 (fun kq v12 v13 w' => ∃ (x12_3 : List (S48)) (x13_3 : Int) (x422000_3 : ByteArray) (x422001_3 : Int) (x422002_3 : Int), v13 = .int .i64 x13_3 ∧ Aside0 (boring_Merge.l2 kq t443 x12_3 x13_3 a0_0 a0_1 a0_2 l0_3 a1_0 a1_1 a1_2 l1_3 = some (r1, r2, r3, r4, r5)) ∧ Aside0 (kq ≤ k2) ∧ Aside0 (Kd.R (Kd.int .i64) 3 w' w.heap.size (fun k_ => (w.heap.size ≤ k_)) v444 t443) ∧ Aside0 (Kd.R k48 48 w' w.heap.size (fun k_ => (w.heap.size ≤ k_)) v12 x12_3) ∧ Aside0 (Kd.V k48 48 w' w.heap.size (fun k_ => ((P0_3_ k_ ∨ P1_3_ k_) ∨ w.heap.size ≤ k_) ∧ some k_ ≠ (v444 : Value).ownBlock ∧ some k_ ≠ (v12 : Value).ownBlock ∧ k_ ≠ gb419 ∧ k_ ≠ gb420 ∧ k_ ≠ gb421) (.slice A0_3 l0_3.length c0_3) l0_3) ∧ Aside0 (Kd.V k48 48 w' w.heap.size (fun k_ => ((P0_3_ k_ ∨ P1_3_ k_) ∨ w.heap.size ≤ k_) ∧ some k_ ≠ (v444 : Value).ownBlock ∧ some k_ ≠ (v12 : Value).ownBlock ∧ k_ ≠ gb419 ∧ k_ ≠ gb420 ∧ k_ ≠ gb421) (.slice A1_3 l1_3.length c1_3) l1_3) ∧ Aside0 (w'.heap[gb419]? = some (.cells #[.string a0_0, .int .i64 a0_1, .int .i64 a0_2, (.slice A0_3 l0_3.length c0_3)] 33 (0, 0))) ∧ Aside0 (w'.heap[gb420]? = some (.cells #[.string a1_0, .int .i64 a1_1, .int .i64 a1_2, (.slice A1_3 l1_3.length c1_3)] 33 (0, 0))) ∧ Aside0 (w'.heap[gb421]? = some (.cells #[.string x422000_3, .int .i64 x422001_3, .int .i64 x422002_3, (.slice none 0 0)] 33 (0, 0))) ∧ Aside0 (Below w.heap.size w w'))
     case atStart => exact ⟨(([] : List (S48))), (1), (x422000_1), (x422001_1), (x422002_1), (by first | rfl | (simp; done) | (simp [*]; done)), H', ⟨Nat.le_refl _⟩, ⟨HO445.out⟩, ⟨by first | exact Kd.R_nil _ _ _ _ _ | exact Kd.N_nil _ _ _ _ _ | exact Kd.V_nil _ _ _ _ _ | exact Kd.Q_nil _ _ _ _ _ | exact Kd.S_nil _ _ _ _ _⟩, ⟨by (with_reducible repeat (first | apply Kd.V_alloc | apply Kd.V_drewN | apply Kd.V_drew)); exact Kd.V_mono HO_420003.out (fun _ hk => ⟨hk.1, ⟨hk.2.2.2.2.2, ⟨(by simp [Value.ownBlock]), ⟨hk.2.2.1, ⟨hk.2.2.2.1, hk.2.2.2.2.1⟩⟩⟩⟩⟩)⟩, ⟨by (with_reducible repeat (first | apply Kd.V_alloc | apply Kd.V_drewN | apply Kd.V_drew)); exact Kd.V_mono HO_421003.out (fun _ hk => ⟨hk.1, ⟨hk.2.2.2.2.2, ⟨(by simp [Value.ownBlock]), ⟨hk.2.2.1, ⟨hk.2.2.2.1, hk.2.2.2.2.1⟩⟩⟩⟩⟩)⟩, ⟨BK419.out⟩, ⟨BK420.out⟩, ⟨BK421.out⟩, ⟨HB.out⟩⟩
     case round =>
      clear H'
      try clear c1
      try clear c2
      try clear p2
      try clear c3
      try clear c4
      try clear p4
      try clear q4
      try clear hx4
      try clear c5
      try clear c6
      try clear p6
      try clear c7
      try clear c9
      try clear c14
      try clear c14b0
      try clear c15
      try clear c15b0
      try clear c16
      try clear c16b0
      try clear c18
      try clear c18b0
      try clear c18b1
      try clear c20
      try clear c21
      try clear c22
      try clear c26
      try clear c27
      try clear c28
      try clear c31
      try clear c32
      try clear c34
      try clear c34b0
      try clear c35
      try clear c36
      try clear c38
      try clear c42
      try clear p42
      try clear q42
      try clear hx42
      try clear c43
      try clear p43
      try clear q43
      try clear hx43
      try clear c45
      try clear c46
      try clear c52
      try clear c52b0
      try clear c53
      try clear c53b0
      try clear c54
      try clear c54b0
      try clear c55
      try clear c56
      try clear c57
      try clear c58
      try clear c59
      try clear p64
      try clear hcz10_0
      try clear hcz10_1
      try clear hcz10_2
      try clear hcz10_3
      try clear hcz23_0
      try clear hcz23_1
      try clear hcz23_2
      try clear hcz23_3
      try clear hcz29_0
      try clear hcz29_1
      try clear hcz29_2
      try clear hcz29_3
      try clear hcz33_0
      try clear hcz33_1
      try clear hcz33_2
      try clear hcz33_3
      try clear hcz37_0
      try clear hcz37_1
      try clear hcz37_2
      try clear hcz37_3
      try clear hcz39_0
      try clear hcz39_1
      try clear hcz39_2
      try clear hcz39_3
      try clear hcz40_0
      try clear hcz40_1
      try clear hcz40_2
      try clear hcz40_3
      try clear hcz44_0
      try clear hcz44_1
      try clear hcz44_2
      try clear hcz44_3
      try clear hcz46_0
      try clear hcz46_1
      try clear hcz46_2
      try clear hcz46_3
      try clear hcz60_0
      try clear hcz60_1
      try clear hcz60_2
      try clear hcz8_0
      try clear hcz8_1
      try clear hcz8_2
      try clear hcz8_3
      try clear hfz10_0
      try clear hfz10_1
      try clear hfz10_2
      try clear hfz10_3
      try clear hfz23_0
      try clear hfz23_1
      try clear hfz23_2
      try clear hfz23_3
      try clear hfz29_0
      try clear hfz29_1
      try clear hfz29_2
      try clear hfz29_3
      try clear hfz33_0
      try clear hfz33_1
      try clear hfz33_2
      try clear hfz33_3
      try clear hfz37_0
      try clear hfz37_1
      try clear hfz37_2
      try clear hfz37_3
      try clear hfz39_0
      try clear hfz39_1
      try clear hfz39_2
      try clear hfz39_3
      try clear hfz40_0
      try clear hfz40_1
      try clear hfz40_2
      try clear hfz40_3
      try clear hfz44_0
      try clear hfz44_1
      try clear hfz44_2
      try clear hfz44_3
      try clear hfz46_0
      try clear hfz46_1
      try clear hfz46_2
      try clear hfz46_3
      try clear hfz60_0
      try clear hfz60_1
      try clear hfz60_2
      try clear hfz8_0
      try clear hfz8_1
      try clear hfz8_2
      try clear hfz8_3
      try clear hx425_0
      try clear hx425_1
      try clear hx425_2
      try clear hx425_3
      try clear hx434_0
      try clear hx434_1
      try clear hx434_2
      try clear p2
      try clear p4
      try clear p42
      try clear p425
      try clear p434
      try clear p6
      try clear q4
      try clear q42
      try clear q425
      try clear q434
      obtain ⟨x12_3, x13_3, x422000_3, x422001_3, x422002_3, rfl, HA, HK3, HO_9, HO_12, HO_420003, HO_421003, BK419, BK420, BK421, HB⟩ := hrel
      cases gk with
      | zero => exact absurd HA.out (by simp [boring_Merge.l2])
      | succ k3 =>
       have H := HA.out
       clear HA
       simp only [boring_Merge.l2] at H
       by_cases c70 : x13_3 < (t443.length : Int)
       rotate_left
       ·rw [if_neg c70] at H
        have c70b0 : decide (x13_3 < (t443.length : Int)) = false := decide_eq_false c70
        clear c70
        replace H := Option.bind_eq_some_iff.mp H
        obtain ⟨t446, A970, H⟩ := H
        replace H : (some (a0_0, a0_1, a0_2, t446, 0)) = some (r1, r2, r3, r4, r5) := H
        have A97 := aK A970
        clear A970
        simp only [Option.some.injEq, Prod.mk.injEq] at H
        obtain ⟨rfl, rfl, rfl, rfl, rfl⟩ := H
        obtain ⟨Ao98, co98, eo98⟩ := Kd.R_slice HO_9.out
        subst eo98
        try go_wp2
        have n0_ := aK (Kd.R_drew HO_9.out)
        have n1_ := aK (Kd.R_drew HO_12.out)
        have n2_ := aK (Kd.V_drew HO_420003.out)
        have n3_ := aK (Kd.V_drew HO_421003.out)
        have n4_ := aK (zD BK419.out)
        have n5_ := aK (zD BK420.out)
        have n6_ := aK (zD BK421.out)
        have n7_ := aK (yD HB.out)
        clear HO_9
        clear HO_12
        clear HO_420003
        clear HO_421003
        clear BK419
        clear BK420
        clear BK421
        clear HB
        have HO_9 := n0_
        have HO_12 := n1_
        have HO_420003 := n2_
        have HO_421003 := n3_
        have BK419 := n4_
        have BK420 := n5_
        have BK421 := n6_
        have HB := n7_
        clear n0_ n1_ n2_ n3_ n4_ n5_ n6_ n7_
        obtain ⟨Ao100, co100, eo100⟩ := Kd.R_slice HO_12.out
        (first | subst eo100 | (injection eo100 with f1_ f2_ f3_; have f4_ := f1_.symm; have f5_ := f3_.symm; clear f1_ f2_ f3_; subst f4_; subst f5_))
        refine start_ (n := 9) (S := fun w' => w'.cell? ⟨gb419, 0, none⟩ = some (.string a0_0) ∧ w'.cell? ⟨gb419, 1, none⟩ = some (.int .i64 a0_1) ∧ w'.cell? ⟨gb419, 2, none⟩ = some (.int .i64 a0_2) ∧ w'.cell? ⟨gb419, 3, none⟩ = some (.slice A0_3 l0_3.length c0_3)) (ds := []) #[false, false, false, false, false, false, false, false, false] (by kernel_rfl) rfl rfl ⟨(zC BK419.out 0).trans rfl, (zC BK419.out 1).trans rfl, (zC BK419.out 2).trans rfl, (zC BK419.out 3).trans rfl⟩ (fun hHeld => ?_); refine with_tabW boring_Merge.tab28 boring_Merge.bits28 (fun HT_ HW_ => ?_)
        generalize wr.drew = w99 at HO_9 HO_12 HO_420003 HO_421003 BK419 BK420 BK421 HB hHeld ⊢
        refine pure_ (i := 0) (N := some 111) (v := ?_) (a' := ?_) #[true, false, false, false, false, false, false, false, false] rfl rfl (any_of HT_.out (by kernel_rfl)) (fun _ _ _ h => h) (Or.inl ⟨by rfl, ?_⟩) ?_ ?_
        rotate_left
        ·intro w'
         go_simp
         with_reducible rfl
        rotate_left
        ·simp only [Act.put, sA, sZ, sS, i64_w, i32_w]
         rfl
        refine pure_ (i := 2) (N := some 113) (v := ?_) (a' := ?_) #[true, false, true, false, false, false, false, false, false] rfl rfl (any_of HT_.out (by kernel_rfl)) (fun _ _ _ h => h) (Or.inl ⟨by rfl, ?_⟩) ?_ ?_
        rotate_left
        ·intro w'
         go_simp
         with_reducible rfl
        rotate_left
        ·simp only [Act.put, sA, sZ, sS, i64_w, i32_w]
         rfl
        refine pure_ (i := 4) (N := some 115) (v := ?_) (a' := ?_) #[true, false, true, false, true, false, false, false, false] rfl rfl (any_of HT_.out (by kernel_rfl)) (fun _ _ _ h => h) (Or.inl ⟨by rfl, ?_⟩) ?_ ?_
        rotate_left
        ·intro w'
         go_simp
         with_reducible rfl
        rotate_left
        ·simp only [Act.put, sA, sZ, sS, i64_w, i32_w]
         rfl
        refine take_ (i := 1) (N := some 112) (v := ?_) (a' := ?_) #[true, true, true, false, true, false, false, false, false] rfl rfl (take_ofW HT_.out HW_.out (by kernel_rfl)) (fun _ _ _ h => h) (Or.inl ⟨by rfl, ?_⟩) hHeld ?_ ?_
        rotate_left
        ·rintro w' ⟨s0, s1, s2, s3⟩
         go_simp
         with_reducible rfl
        rotate_left
        ·simp only [Act.put, sA, sZ, sS, i64_w, i32_w]
         rfl
        refine take_ (i := 3) (N := some 114) (v := ?_) (a' := ?_) #[true, true, true, true, true, false, false, false, false] rfl rfl (take_ofW HT_.out HW_.out (by kernel_rfl)) (fun _ _ _ h => h) (Or.inl ⟨by rfl, ?_⟩) hHeld ?_ ?_
        rotate_left
        ·rintro w' ⟨s0, s1, s2, s3⟩
         go_simp
         with_reducible rfl
        rotate_left
        ·simp only [Act.put, sA, sZ, sS, i64_w, i32_w]
         rfl
        refine one_ (i := 5) (N := some 116) #[true, true, true, true, true, true, false, false, false] rfl rfl (one_of HT_.out (by kernel_rfl)) (by decide) (fun K hK => ?_)
        refine goes_ Tryz.func47 (by kernel_rfl) rfl #[.slice Ao100 x12_3.length co100] (by rfl) rfl rfl (by (try simp only [List.map_toArray, List.map_cons, List.map_nil]); first | done | rfl | (simp only [List.length_drop, List.length_take]; rfl)) ?_
        with_reducible refine (boring_joined.calls k3 _ _ x12_3 t446 _ ?side1 ?side2 A97.out).mono ?_
        (case side1 => repeat (first | exact (Kd.R_reads' HO_12.out).2.2 | (with_reducible refine Kd.C_alloc ?_ _) | (with_reducible refine Kd.C_drewN ?_ _) | (with_reducible refine Kd.C_drew ?_)))
        (case side2 => exact (Kd.R_reads' HO_12.out).2.1)
        rintro e w101 ⟨v447, rfl, ho0, hb⟩
        refine ⟨_, rfl, ?_⟩
        have n0_ := aK (Kd.R_below (HO_9.out) hb)
        have n1_ := aK (Kd.R_elder' (HO_12.out) (Kd.R_base ho0) hb)
        have n2_ := aK (Kd.V_elder' (HO_420003.out) (Kd.R_base ho0) hb)
        have n3_ := aK (Kd.V_elder' (HO_421003.out) (Kd.R_base ho0) hb)
        have n4_ := aK (Kd.R_lower (Kd.R_new' (Kd.R_newM (M := fun k_ => (w.heap.size ≤ k_)) ho0 (yZ (by repeat (first | (with_reducible first | exact HB.out | apply yA | apply yN | apply yD | refine yS ?_ GE419.out | refine yS ?_ GE420.out | refine yS ?_ GE421.out) | exact HB.out))) (fun k_ h_ => h_)) (Kd.R_lt (HO_12.out))) (yZ (by repeat (first | (with_reducible first | exact HB.out | apply yA | apply yN | apply yD | refine yS ?_ GE419.out | refine yS ?_ GE420.out | refine yS ?_ GE421.out) | exact HB.out))))
        have n5_ := aK (zB (g := gb419) (o := .cells #[.string a0_0, .int .i64 a0_1, .int .i64 a0_2, .slice A0_3 l0_3.length c0_3] 33 (0, 0)) (BK419.out) hb)
        have n6_ := aK (zB (g := gb420) (o := .cells #[.string a1_0, .int .i64 a1_1, .int .i64 a1_2, .slice A1_3 l1_3.length c1_3] 33 (0, 0)) (BK420.out) hb)
        have n7_ := aK (zB (g := gb421) (o := .cells #[.string x422000_3, .int .i64 x422001_3, .int .i64 x422002_3, .slice none 0 0] 33 (0, 0)) (BK421.out) hb)
        have n8_ := aK (yT (by repeat (first | (with_reducible first | exact HB.out | apply yA | apply yN | apply yD | refine yS ?_ GE419.out | refine yS ?_ GE420.out | refine yS ?_ GE421.out) | exact HB.out)) hb)
        clear HO_9
        clear HO_12
        clear HO_420003
        clear HO_421003
        clear BK419
        clear BK420
        clear BK421
        clear HB
        have HO_9 := n0_
        have HO_12 := n1_
        have HO_420003 := n2_
        have HO_421003 := n3_
        have HO448 := n4_
        have BK419 := n5_
        have BK420 := n6_
        have BK421 := n7_
        have HB := n8_
        clear n0_ n1_ n2_ n3_ n4_ n5_ n6_ n7_ n8_
        (try clear hb)
        (try clear hb2)
        (try clear hk)
        (try clear hi)
        (try clear ho0)
        obtain ⟨Ao102, co102, eo102⟩ := Kd.R_slice HO448.out
        (first | subst eo102 | (injection eo102 with f1_ f2_ f3_; have f4_ := f1_.symm; have f5_ := f3_.symm; clear f1_ f2_ f3_; subst f4_; subst f5_))
        refine hK.out _ _ ⟨(zC BK419.out 0).trans rfl, (zC BK419.out 1).trans rfl, (zC BK419.out 2).trans rfl, (zC BK419.out 3).trans rfl⟩ (fun hHeld => ?_)
        clear hK K
        refine norm_ (a' := ?_) ?_ ?_
        rotate_left
        ·show Act.put _ (some 116) _ = _
         simp only [Act.put, sA, sZ, sS, i64_w, i32_w]
         rfl
        refine pure_ (i := 6) (N := some 117) (v := ?_) (a' := ?_) #[true, true, true, true, true, true, true, false, false] rfl rfl (any_of HT_.out (by kernel_rfl)) (fun _ _ _ h => h) (Or.inl ⟨by rfl, ?_⟩) ?_ ?_
        rotate_left
        ·intro w'
         go_simp
         with_reducible rfl
        rotate_left
        ·simp only [Act.put, sA, sZ, sS, i64_w, i32_w]
         rfl
        refine one_ (i := 7) (N := none) #[true, true, true, true, true, true, true, true, false] rfl rfl (one_of HT_.out (by kernel_rfl)) (by decide) (fun K hK => ?_)
        have hs103 : w101.cell? ⟨gb421, 0, none⟩ = some (.string x422000_3) := (zC BK421.out 0).trans rfl
        have hfs103 := zF BK421.out 0
        have hns103_0 := NB419_421.out
        have hns103_1 := NB420_421.out
        have hms103_0 := NB421_419.out
        have hms103_1 := NB421_420.out
        have hs104 : w101.cell? ⟨gb421, 1, none⟩ = some (.int .i64 x422001_3) := (zC BK421.out 1).trans rfl
        have hfs104 := zF BK421.out 1
        have hns104_0 := NB419_421.out
        have hns104_1 := NB420_421.out
        have hms104_0 := NB421_419.out
        have hms104_1 := NB421_420.out
        have hs105 : w101.cell? ⟨gb421, 2, none⟩ = some (.int .i64 x422002_3) := (zC BK421.out 2).trans rfl
        have hfs105 := zF BK421.out 2
        have hns105_0 := NB419_421.out
        have hns105_1 := NB420_421.out
        have hms105_0 := NB421_419.out
        have hms105_1 := NB421_420.out
        have hs106 : w101.cell? ⟨gb421, 3, none⟩ = some (.slice none 0 0) := (zC BK421.out 3).trans rfl
        have hfs106 := zF BK421.out 3
        have hns106_0 := NB419_421.out
        have hns106_1 := NB420_421.out
        have hms106_0 := NB421_419.out
        have hms106_1 := NB421_420.out
        refine skip_ (w1 := ?_) (by rfl) rfl ?_ ?_
        rotate_left
        ·go_simp
         rfl
        refine hK.out _ _ ⟨((cell_far (p := ⟨gb421, _, none⟩) NB419_421.out _).trans (((cell_far (p := ⟨gb421, _, none⟩) NB419_421.out _).trans (((cell_far (p := ⟨gb421, _, none⟩) NB419_421.out _).trans (((cell_far (p := ⟨gb421, _, none⟩) NB419_421.out _).trans (hHeld.1)))))))), ((cell_far (p := ⟨gb421, _, none⟩) NB419_421.out _).trans (((cell_far (p := ⟨gb421, _, none⟩) NB419_421.out _).trans (((cell_far (p := ⟨gb421, _, none⟩) NB419_421.out _).trans (((cell_far (p := ⟨gb421, _, none⟩) NB419_421.out _).trans (hHeld.2.1)))))))), ((cell_far (p := ⟨gb421, _, none⟩) NB419_421.out _).trans (((cell_far (p := ⟨gb421, _, none⟩) NB419_421.out _).trans (((cell_far (p := ⟨gb421, _, none⟩) NB419_421.out _).trans (((cell_far (p := ⟨gb421, _, none⟩) NB419_421.out _).trans (hHeld.2.2.1)))))))), ((cell_far (p := ⟨gb421, _, none⟩) NB419_421.out _).trans (((cell_far (p := ⟨gb421, _, none⟩) NB419_421.out _).trans (((cell_far (p := ⟨gb421, _, none⟩) NB419_421.out _).trans (((cell_far (p := ⟨gb421, _, none⟩) NB419_421.out _).trans (hHeld.2.2.2))))))))⟩ (fun hHeld => ?_)
        clear hK K
        refine pure_ (i := 8) (N := some 5) (v := ?_) (a' := ?_) #[true, true, true, true, true, true, true, true, true] rfl rfl (any_of HT_.out (by kernel_rfl)) (fun _ _ _ h => h) (Or.inl ⟨by rfl, ?_⟩) ?_ ?_
        rotate_left
        ·intro w'
         go_simp
         with_reducible rfl
        rotate_left
        ·simp only [Act.put, sA, sZ, sS, i64_w, i32_w]
         rfl
        refine done_ (done_of HT_.out (by kernel_rfl)) ?_
        try go_wp2
        refine bodyPost_ret (results_ct rfl _ _ gb421 33 #[.string a0_0, .int .i64 a0_1, .int .i64 a0_2, .slice Ao102 t446.length co102] (0, 0) _ rfl (by refine blk_put (cs := #[.string a0_0, .int .i64 a0_1, .int .i64 a0_2, .slice none 0 0]) ?_ 3 _ rfl; refine blk_put (cs := #[.string a0_0, .int .i64 a0_1, .int .i64 x422002_3, .slice none 0 0]) ?_ 2 _ rfl; refine blk_put (cs := #[.string a0_0, .int .i64 x422001_3, .int .i64 x422002_3, .slice none 0 0]) ?_ 1 _ rfl; refine blk_put (cs := #[.string x422000_3, .int .i64 x422001_3, .int .i64 x422002_3, .slice none 0 0]) ?_ 0 _ rfl; exact BK421.out) Tryz.underlying33 rfl (by kernel_rfl)) rfl ?_
        exact ⟨_, rfl, by (with_reducible repeat (first | apply Kd.R_alloc | apply Kd.R_drewN | apply Kd.R_drew)); exact Kd.R_mono (Kd.R_far (p := ⟨gb421, 3, none⟩) (Kd.R_far (p := ⟨gb421, 2, none⟩) (Kd.R_far (p := ⟨gb421, 1, none⟩) (Kd.R_far (p := ⟨gb421, 0, none⟩) (Kd.R_types HO448.out BK421.out (by decide)) (fun _ hk => hk.2) (.string a0_0)) (fun _ hk => hk.2) (.int .i64 a0_1)) (fun _ hk => hk.2) (.int .i64 a0_2)) (fun _ hk => hk.2) (.slice Ao102 t446.length co102)) (fun _ hk => hk.1.1.1), by repeat (first | (with_reducible first | exact HB.out | apply yA | apply yN | apply yD | refine yS ?_ GE419.out | refine yS ?_ GE420.out | refine yS ?_ GE421.out) | exact HB.out)⟩
       rw [if_pos c70] at H
       have c70b0 : decide (x13_3 < (t443.length : Int)) = true := decide_eq_true c70
       clear c70
       obtain ⟨ji71, hji71⟩ : ∃ j_ : Int, (wrap64 (x13_3 - 1)) = j_ := ⟨_, rfl⟩
       replace H : (if 0 ≤ (ji71) then (if (ji71) < (t443.length : Int) then ((boring_State.f k3 a0_0 a0_1 a0_2 l0_3 (rd t443 (ji71))).bind fun t450 => ((boring_State.f k3 a1_0 a1_1 a1_2 l1_3 (rd t443 (ji71))).bind fun t452 => (if t450 = 0 then (boring_Merge.j3 k3 t443 x12_3 x13_3 t450 t452 false a0_0 a0_1 a0_2 l0_3 a1_0 a1_1 a1_2 l1_3) else (if t452 = 0 then (boring_Merge.j3 k3 t443 x12_3 x13_3 t450 t452 false a0_0 a0_1 a0_2 l0_3 a1_0 a1_1 a1_2 l1_3) else (boring_Merge.j3 k3 t443 x12_3 x13_3 t450 t452 (t450 != t452) a0_0 a0_1 a0_2 l0_3 a1_0 a1_1 a1_2 l1_3))))) else (none)) else (none)) = some (r1, r2, r3, r4, r5) := by first | (rw [hji71] at H; exact H) | (simp only [hji71] at H ⊢; exact H)
       have hji71w : (IntKind.i64.wrap (x13_3 - 1)) = ji71 := (i64_w _).trans hji71
       by_cases c72 : 0 ≤ (ji71)
       rotate_left
       ·rw [if_neg c72] at H
        exact absurd H (by simp)
       rw [if_pos c72] at H
       have c72b0 : decide (0 ≤ (ji71)) = true := decide_eq_true c72
       clear c72
       by_cases c73 : (ji71) < (t443.length : Int)
       rotate_left
       ·rw [if_neg c73] at H
        exact absurd H (by simp)
       rw [if_pos c73] at H
       have c73b0 : decide ((ji71) < (t443.length : Int)) = true := decide_eq_true c73
       clear c73
       replace H := Option.bind_eq_some_iff.mp H
       obtain ⟨t450, A740, H⟩ := H
       replace H : ((boring_State.f k3 a1_0 a1_1 a1_2 l1_3 (rd t443 (ji71))).bind fun t452 => (if t450 = 0 then (boring_Merge.j3 k3 t443 x12_3 x13_3 t450 t452 false a0_0 a0_1 a0_2 l0_3 a1_0 a1_1 a1_2 l1_3) else (if t452 = 0 then (boring_Merge.j3 k3 t443 x12_3 x13_3 t450 t452 false a0_0 a0_1 a0_2 l0_3 a1_0 a1_1 a1_2 l1_3) else (boring_Merge.j3 k3 t443 x12_3 x13_3 t450 t452 (t450 != t452) a0_0 a0_1 a0_2 l0_3 a1_0 a1_1 a1_2 l1_3)))) = some (r1, r2, r3, r4, r5) := H
       have A74 := aK A740
       clear A740
       replace H := Option.bind_eq_some_iff.mp H
       obtain ⟨t452, A750, H⟩ := H
       replace H : (if t450 = 0 then (boring_Merge.j3 k3 t443 x12_3 x13_3 t450 t452 false a0_0 a0_1 a0_2 l0_3 a1_0 a1_1 a1_2 l1_3) else (if t452 = 0 then (boring_Merge.j3 k3 t443 x12_3 x13_3 t450 t452 false a0_0 a0_1 a0_2 l0_3 a1_0 a1_1 a1_2 l1_3) else (boring_Merge.j3 k3 t443 x12_3 x13_3 t450 t452 (t450 != t452) a0_0 a0_1 a0_2 l0_3 a1_0 a1_1 a1_2 l1_3))) = some (r1, r2, r3, r4, r5) := H
       have A75 := aK A750
       clear A750
       have HC76 := aK H
       clear H
       obtain ⟨Ao77, co77, eo77⟩ := Kd.R_slice HO_9.out
       subst eo77
       try go_wp2
       have n0_ := aK (Kd.R_drew HO_9.out)
       have n1_ := aK (Kd.R_drew HO_12.out)
       have n2_ := aK (Kd.V_drew HO_420003.out)
       have n3_ := aK (Kd.V_drew HO_421003.out)
       have n4_ := aK (zD BK419.out)
       have n5_ := aK (zD BK420.out)
       have n6_ := aK (zD BK421.out)
       have n7_ := aK (yD HB.out)
       clear HO_9
       clear HO_12
       clear HO_420003
       clear HO_421003
       clear BK419
       clear BK420
       clear BK421
       clear HB
       have HO_9 := n0_
       have HO_12 := n1_
       have HO_420003 := n2_
       have HO_421003 := n3_
       have BK419 := n4_
       have BK420 := n5_
       have BK421 := n6_
       have HB := n7_
       clear n0_ n1_ n2_ n3_ n4_ n5_ n6_ n7_
       have p449 : 0 ≤ ((ji71) : Int) := of_decide_eq_true (by assumption)
       have q449 : (ji71) < (t443.length : Int) := of_decide_eq_true (by assumption)
       obtain ⟨ad449, e449, hx449_0⟩ := Kd.at_int (Kd.R_reads' HO_9.out).2.2 (ji71) p449 q449
       cases e449
       replace p449 := eq_true p449
       replace q449 := eq_true q449
       have p451 : 0 ≤ ((ji71) : Int) := of_decide_eq_true (by assumption)
       have q451 : (ji71) < (t443.length : Int) := of_decide_eq_true (by assumption)
       obtain ⟨ad451, e451, hx451_0⟩ := Kd.at_int (Kd.R_reads' HO_9.out).2.2 (ji71) p451 q451
       obtain rfl : ad449 = ad451 := (by injection e451)
       replace p451 := eq_true p451
       replace q451 := eq_true q451
       refine start_ (n := 16) (S := fun w' => w'.cell? ⟨gb419, 0, none⟩ = some (.string a0_0) ∧ w'.cell? ⟨gb419, 1, none⟩ = some (.int .i64 a0_1) ∧ w'.cell? ⟨gb419, 2, none⟩ = some (.int .i64 a0_2) ∧ w'.cell? ⟨gb419, 3, none⟩ = some (.slice A0_3 l0_3.length c0_3) ∧ w'.cell? ⟨gb420, 0, none⟩ = some (.string a1_0) ∧ w'.cell? ⟨gb420, 1, none⟩ = some (.int .i64 a1_1) ∧ w'.cell? ⟨gb420, 2, none⟩ = some (.int .i64 a1_2) ∧ w'.cell? ⟨gb420, 3, none⟩ = some (.slice A1_3 l1_3.length c1_3) ∧ w'.cell? (ad449.add ((ji71)).toNat) = some (.int .i64 (rd t443 (ji71))) ∧ w'.cell? (ad449.add ((ji71)).toNat) = some (.int .i64 (rd t443 (ji71)))) (ds := []) #[false, false, false, false, false, false, false, false, false, false, false, false, false, false, false, false] (by kernel_rfl) rfl rfl ⟨(zC BK419.out 0).trans rfl, (zC BK419.out 1).trans rfl, (zC BK419.out 2).trans rfl, (zC BK419.out 3).trans rfl, (zC BK420.out 0).trans rfl, (zC BK420.out 1).trans rfl, (zC BK420.out 2).trans rfl, (zC BK420.out 3).trans rfl, hx449_0, hx451_0⟩ (fun hHeld => ?_); refine with_tabW boring_Merge.tab22 boring_Merge.bits22 (fun HT_ HW_ => ?_)
       generalize wr.drew = w78 at HO_9 HO_12 HO_420003 HO_421003 BK419 BK420 BK421 HB hx449_0 hx451_0 hHeld ⊢
       refine pure_ (i := 1) (N := some 67) (v := ?_) (a' := ?_) #[false, true, false, false, false, false, false, false, false, false, false, false, false, false, false, false] rfl rfl (any_of HT_.out (by kernel_rfl)) (fun _ _ _ h => h) (Or.inl ⟨by rfl, ?_⟩) ?_ ?_
       rotate_left
       ·intro w'
        go_simp
        with_reducible rfl
       rotate_left
       ·simp only [Act.put, sA, sZ, sS, i64_w, i32_w]
        rfl
       refine pure_ (i := 2) (N := some 68) (v := ?_) (a' := ?_) #[false, true, true, false, false, false, false, false, false, false, false, false, false, false, false, false] rfl rfl (any_of HT_.out (by kernel_rfl)) (fun _ _ _ h => h) (Or.inl ⟨by rfl, ?_⟩) ?_ ?_
       rotate_left
       ·intro w'
        go_simp
        with_reducible rfl
       rotate_left
       ·simp only [Act.put, sA, sZ, sS, i64_w, i32_w]
        rfl
       refine pure_ (i := 3) (N := some 69) (v := ?_) (a' := ?_) #[false, true, true, true, false, false, false, false, false, false, false, false, false, false, false, false] rfl rfl (any_of HT_.out (by kernel_rfl)) (fun _ _ _ h => h) (Or.inl ⟨by rfl, ?_⟩) ?_ ?_
       rotate_left
       ·intro w'
        go_simp
        with_reducible rfl
       rotate_left
       ·simp only [Act.put, sA, sZ, sS, i64_w, i32_w]
        rfl
       refine pure_ (i := 4) (N := some 70) (v := ?_) (a' := ?_) #[false, true, true, true, true, false, false, false, false, false, false, false, false, false, false, false] rfl rfl (any_of HT_.out (by kernel_rfl)) (fun _ _ _ h => h) (Or.inl ⟨by rfl, ?_⟩) ?_ ?_
       rotate_left
       ·intro w'
        go_simp
        with_reducible rfl
       rotate_left
       ·simp only [Act.put, sA, sZ, sS, i64_w, i32_w]
        rfl
       refine pure_ (i := 8) (N := some 74) (v := ?_) (a' := ?_) #[false, true, true, true, true, false, false, false, true, false, false, false, false, false, false, false] rfl rfl (any_of HT_.out (by kernel_rfl)) (fun _ _ _ h => h) (Or.inl ⟨by rfl, ?_⟩) ?_ ?_
       rotate_left
       ·intro w'
        go_simp
        with_reducible rfl
       rotate_left
       ·simp only [Act.put, sA, sZ, sS, i64_w, i32_w]
        rfl
       refine pure_ (i := 9) (N := some 75) (v := ?_) (a' := ?_) #[false, true, true, true, true, false, false, false, true, true, false, false, false, false, false, false] rfl rfl (any_of HT_.out (by kernel_rfl)) (fun _ _ _ h => h) (Or.inl ⟨by rfl, ?_⟩) ?_ ?_
       rotate_left
       ·intro w'
        go_simp
        with_reducible rfl
       rotate_left
       ·simp only [Act.put, sA, sZ, sS, i64_w, i32_w]
        rfl
       refine pure_ (i := 10) (N := some 76) (v := ?_) (a' := ?_) #[false, true, true, true, true, false, false, false, true, true, true, false, false, false, false, false] rfl rfl (any_of HT_.out (by kernel_rfl)) (fun _ _ _ h => h) (Or.inl ⟨by rfl, ?_⟩) ?_ ?_
       rotate_left
       ·intro w'
        go_simp
        with_reducible rfl
       rotate_left
       ·simp only [Act.put, sA, sZ, sS, i64_w, i32_w]
        rfl
       refine pure_ (i := 11) (N := some 77) (v := ?_) (a' := ?_) #[false, true, true, true, true, false, false, false, true, true, true, true, false, false, false, false] rfl rfl (any_of HT_.out (by kernel_rfl)) (fun _ _ _ h => h) (Or.inl ⟨by rfl, ?_⟩) ?_ ?_
       rotate_left
       ·intro w'
        go_simp
        with_reducible rfl
       rotate_left
       ·simp only [Act.put, sA, sZ, sS, i64_w, i32_w]
        rfl
       refine take_ (i := 0) (N := some 66) (v := ?_) (a' := ?_) #[true, true, true, true, true, false, false, false, true, true, true, true, false, false, false, false] rfl rfl (take_ofW HT_.out HW_.out (by kernel_rfl)) (fun _ _ _ h => h) (Or.inl ⟨by rfl, ?_⟩) hHeld ?_ ?_
       rotate_left
       ·rintro w' ⟨s0, s1, s2, s3, s4, s5, s6, s7, s8, s9⟩
        go_simp
        with_reducible rfl
       rotate_left
       ·simp only [Act.put, sA, sZ, sS, i64_w, i32_w]
        rfl
       refine take_ (i := 5) (N := some 71) (v := ?_) (a' := ?_) #[true, true, true, true, true, true, false, false, true, true, true, true, false, false, false, false] rfl rfl (take_ofW HT_.out HW_.out (by kernel_rfl)) (fun _ _ _ h => h) (Or.inl ⟨by rfl, ?_⟩) hHeld ?_ ?_
       rotate_left
       ·rintro w' ⟨s0, s1, s2, s3, s4, s5, s6, s7, s8, s9⟩
        go_simp
        with_reducible rfl
       rotate_left
       ·simp only [Act.put, sA, sZ, sS, i64_w, i32_w]
        rfl
       refine take_ (i := 7) (N := some 73) (v := ?_) (a' := ?_) #[true, true, true, true, true, true, false, true, true, true, true, true, false, false, false, false] rfl rfl (take_ofW HT_.out HW_.out (by kernel_rfl)) (fun _ _ _ h => h) (Or.inl ⟨by rfl, ?_⟩) hHeld ?_ ?_
       rotate_left
       ·rintro w' ⟨s0, s1, s2, s3, s4, s5, s6, s7, s8, s9⟩
        go_simp
        with_reducible rfl
       rotate_left
       ·simp only [Act.put, sA, sZ, sS, i64_w, i32_w]
        rfl
       refine take_ (i := 12) (N := some 78) (v := ?_) (a' := ?_) #[true, true, true, true, true, true, false, true, true, true, true, true, true, false, false, false] rfl rfl (take_ofW HT_.out HW_.out (by kernel_rfl)) (fun _ _ _ h => h) (Or.inl ⟨by rfl, ?_⟩) hHeld ?_ ?_
       rotate_left
       ·rintro w' ⟨s0, s1, s2, s3, s4, s5, s6, s7, s8, s9⟩
        go_simp
        with_reducible rfl
       rotate_left
       ·simp only [Act.put, sA, sZ, sS, i64_w, i32_w]
        rfl
       refine one_ (i := 6) (N := some 72) #[true, true, true, true, true, true, true, true, true, true, true, true, true, false, false, false] rfl rfl (one_of HT_.out (by kernel_rfl)) (by decide) (fun K hK => ?_)
       refine goes_ Tryz.func21 (by kernel_rfl) rfl #[.agg #[.string a0_0, .int .i64 a0_1, .int .i64 a0_2, .slice A0_3 l0_3.length c0_3], .int .i64 (rd t443 (ji71))] (by rfl) rfl rfl (by (try simp only [List.map_toArray, List.map_cons, List.map_nil]); first | done | (simp only [hji71]; rfl) | rfl | (simp only [List.length_drop, List.length_take]; rfl)) ?_
       with_reducible refine (boring_State.calls k3 a0_0 a0_1 a0_2 _ _ l0_3 (rd t443 (ji71)) t450 _ ?side1 ?side2 A74.out).mono ?_
       (case side1 => repeat (first | exact (Kd.V_reads' HO_420003.out).2.2 | (with_reducible refine Kd.C_alloc ?_ _) | (with_reducible refine Kd.C_drewN ?_ _) | (with_reducible refine Kd.C_drew ?_)))
       (case side2 => exact (Kd.V_reads' HO_420003.out).2.1)
       rintro e w79 ⟨rfl, hb⟩
       have HS8_ := (hb.cell (World.block_lt_of_cell? _ _ (hHeld.2.2.2.2.2.2.2.2.1))).trans (hHeld.2.2.2.2.2.2.2.2.1)
       have HS9_ := (hb.cell (World.block_lt_of_cell? _ _ (hHeld.2.2.2.2.2.2.2.2.2))).trans (hHeld.2.2.2.2.2.2.2.2.2)
       refine ⟨_, rfl, ?_⟩
       have n0_ := aK (Kd.R_below (HO_9.out) hb)
       have n1_ := aK (Kd.R_below (HO_12.out) hb)
       have n2_ := aK (Kd.V_below (HO_420003.out) hb)
       have n3_ := aK (Kd.V_below (HO_421003.out) hb)
       have n4_ := aK (zB (g := gb419) (o := .cells #[.string a0_0, .int .i64 a0_1, .int .i64 a0_2, .slice A0_3 l0_3.length c0_3] 33 (0, 0)) (BK419.out) hb)
       have n5_ := aK (zB (g := gb420) (o := .cells #[.string a1_0, .int .i64 a1_1, .int .i64 a1_2, .slice A1_3 l1_3.length c1_3] 33 (0, 0)) (BK420.out) hb)
       have n6_ := aK (zB (g := gb421) (o := .cells #[.string x422000_3, .int .i64 x422001_3, .int .i64 x422002_3, .slice none 0 0] 33 (0, 0)) (BK421.out) hb)
       have n7_ := aK (yT (by repeat (first | (with_reducible first | exact HB.out | apply yA | apply yN | apply yD | refine yS ?_ GE419.out | refine yS ?_ GE420.out | refine yS ?_ GE421.out) | exact HB.out)) hb)
       clear HO_9
       clear HO_12
       clear HO_420003
       clear HO_421003
       clear BK419
       clear BK420
       clear BK421
       clear HB
       have HO_9 := n0_
       have HO_12 := n1_
       have HO_420003 := n2_
       have HO_421003 := n3_
       have BK419 := n4_
       have BK420 := n5_
       have BK421 := n6_
       have HB := n7_
       clear n0_ n1_ n2_ n3_ n4_ n5_ n6_ n7_
       (try clear hb)
       (try clear hb2)
       (try clear hk)
       (try clear hi)
       refine hK.out _ _ ⟨(zC BK419.out 0).trans rfl, (zC BK419.out 1).trans rfl, (zC BK419.out 2).trans rfl, (zC BK419.out 3).trans rfl, (zC BK420.out 0).trans rfl, (zC BK420.out 1).trans rfl, (zC BK420.out 2).trans rfl, (zC BK420.out 3).trans rfl, HS8_, HS9_⟩ (fun hHeld => ?_)
       clear hK K
       refine norm_ (a' := ?_) ?_ ?_
       rotate_left
       ·show Act.put _ (some 72) _ = _
        simp only [Act.put, sA, sZ, sS, i64_w, i32_w]
        rfl
       refine one_ (i := 13) (N := some 79) #[true, true, true, true, true, true, true, true, true, true, true, true, true, true, false, false] rfl rfl (one_of HT_.out (by kernel_rfl)) (by decide) (fun K hK => ?_)
       refine goes_ Tryz.func21 (by kernel_rfl) rfl #[.agg #[.string a1_0, .int .i64 a1_1, .int .i64 a1_2, .slice A1_3 l1_3.length c1_3], .int .i64 (rd t443 (ji71))] (by rfl) rfl rfl (by (try simp only [List.map_toArray, List.map_cons, List.map_nil]); first | done | (simp only [hji71]; rfl) | rfl | (simp only [List.length_drop, List.length_take]; rfl)) ?_
       with_reducible refine (boring_State.calls k3 a1_0 a1_1 a1_2 _ _ l1_3 (rd t443 (ji71)) t452 _ ?side1 ?side2 A75.out).mono ?_
       (case side1 => repeat (first | exact (Kd.V_reads' HO_421003.out).2.2 | (with_reducible refine Kd.C_alloc ?_ _) | (with_reducible refine Kd.C_drewN ?_ _) | (with_reducible refine Kd.C_drew ?_)))
       (case side2 => exact (Kd.V_reads' HO_421003.out).2.1)
       rintro e w80 ⟨rfl, hb⟩
       have HS8_ := (hb.cell (World.block_lt_of_cell? _ _ (hHeld.2.2.2.2.2.2.2.2.1))).trans (hHeld.2.2.2.2.2.2.2.2.1)
       have HS9_ := (hb.cell (World.block_lt_of_cell? _ _ (hHeld.2.2.2.2.2.2.2.2.2))).trans (hHeld.2.2.2.2.2.2.2.2.2)
       refine ⟨_, rfl, ?_⟩
       have n0_ := aK (Kd.R_below (HO_9.out) hb)
       have n1_ := aK (Kd.R_below (HO_12.out) hb)
       have n2_ := aK (Kd.V_below (HO_420003.out) hb)
       have n3_ := aK (Kd.V_below (HO_421003.out) hb)
       have n4_ := aK (zB (g := gb419) (o := .cells #[.string a0_0, .int .i64 a0_1, .int .i64 a0_2, .slice A0_3 l0_3.length c0_3] 33 (0, 0)) (BK419.out) hb)
       have n5_ := aK (zB (g := gb420) (o := .cells #[.string a1_0, .int .i64 a1_1, .int .i64 a1_2, .slice A1_3 l1_3.length c1_3] 33 (0, 0)) (BK420.out) hb)
       have n6_ := aK (zB (g := gb421) (o := .cells #[.string x422000_3, .int .i64 x422001_3, .int .i64 x422002_3, .slice none 0 0] 33 (0, 0)) (BK421.out) hb)
       have n7_ := aK (yT (by repeat (first | (with_reducible first | exact HB.out | apply yA | apply yN | apply yD | refine yS ?_ GE419.out | refine yS ?_ GE420.out | refine yS ?_ GE421.out) | exact HB.out)) hb)
       clear HO_9
       clear HO_12
       clear HO_420003
       clear HO_421003
       clear BK419
       clear BK420
       clear BK421
       clear HB
       have HO_9 := n0_
       have HO_12 := n1_
       have HO_420003 := n2_
       have HO_421003 := n3_
       have BK419 := n4_
       have BK420 := n5_
       have BK421 := n6_
       have HB := n7_
       clear n0_ n1_ n2_ n3_ n4_ n5_ n6_ n7_
       (try clear hb)
       (try clear hb2)
       (try clear hk)
       (try clear hi)
       refine hK.out _ _ ⟨(zC BK419.out 0).trans rfl, (zC BK419.out 1).trans rfl, (zC BK419.out 2).trans rfl, (zC BK419.out 3).trans rfl, (zC BK420.out 0).trans rfl, (zC BK420.out 1).trans rfl, (zC BK420.out 2).trans rfl, (zC BK420.out 3).trans rfl, HS8_, HS9_⟩ (fun hHeld => ?_)
       clear hK K
       refine norm_ (a' := ?_) ?_ ?_
       rotate_left
       ·show Act.put _ (some 79) _ = _
        simp only [Act.put, sA, sZ, sS, i64_w, i32_w]
        rfl
       refine pure_ (i := 14) (N := some 14) (v := ?_) (a' := ?_) #[true, true, true, true, true, true, true, true, true, true, true, true, true, true, true, false] rfl rfl (any_of HT_.out (by kernel_rfl)) (fun _ _ _ h => h) (Or.inl ⟨by rfl, ?_⟩) ?_ ?_
       rotate_left
       ·intro w'
        go_simp
        with_reducible rfl
       rotate_left
       ·simp only [Act.put, sA, sZ, sS, i64_w, i32_w]
        rfl
       refine pure_ (i := 15) (N := some 15) (v := ?_) (a' := ?_) #[true, true, true, true, true, true, true, true, true, true, true, true, true, true, true, true] rfl rfl (any_of HT_.out (by kernel_rfl)) (fun _ _ _ h => h) (Or.inl ⟨by rfl, ?_⟩) ?_ ?_
       rotate_left
       ·intro w'
        go_simp
        with_reducible rfl
       rotate_left
       ·simp only [Act.put, sA, sZ, sS, i64_w, i32_w]
        rfl
       refine done_ (done_of HT_.out (by kernel_rfl)) ?_
       go_upto_region 23 with (fail)
       go_cut [90] (fun v90 wc => ∃ (kq : Nat) (x90_75 : Bool), v90 = .bool x90_75 ∧ Aside0 (boring_Merge.j3 kq t443 x12_3 x13_3 t450 t452 x90_75 a0_0 a0_1 a0_2 l0_3 a1_0 a1_1 a1_2 l1_3 = some (r1, r2, r3, r4, r5)) ∧ Aside0 (kq ≤ k3) ∧ Aside0 (Kd.R (Kd.int .i64) 3 wc w.heap.size (fun k_ => (w.heap.size ≤ k_)) (.slice (some ad449) t443.length co77) t443) ∧ Aside0 (Kd.R k48 48 wc w.heap.size (fun k_ => (w.heap.size ≤ k_)) u12 x12_3) ∧ Aside0 (Kd.V k48 48 wc w.heap.size (fun k_ => ((P0_3_ k_ ∨ P1_3_ k_) ∨ w.heap.size ≤ k_) ∧ some k_ ≠ ((.slice (some ad449) t443.length co77) : Value).ownBlock ∧ some k_ ≠ (u12 : Value).ownBlock ∧ k_ ≠ gb419 ∧ k_ ≠ gb420 ∧ k_ ≠ gb421) (.slice A0_3 l0_3.length c0_3) l0_3) ∧ Aside0 (Kd.V k48 48 wc w.heap.size (fun k_ => ((P0_3_ k_ ∨ P1_3_ k_) ∨ w.heap.size ≤ k_) ∧ some k_ ≠ ((.slice (some ad449) t443.length co77) : Value).ownBlock ∧ some k_ ≠ (u12 : Value).ownBlock ∧ k_ ≠ gb419 ∧ k_ ≠ gb420 ∧ k_ ≠ gb421) (.slice A1_3 l1_3.length c1_3) l1_3) ∧ Aside0 (wc.heap[gb419]? = some (.cells #[.string a0_0, .int .i64 a0_1, .int .i64 a0_2, (.slice A0_3 l0_3.length c0_3)] 33 (0, 0))) ∧ Aside0 (wc.heap[gb420]? = some (.cells #[.string a1_0, .int .i64 a1_1, .int .i64 a1_2, (.slice A1_3 l1_3.length c1_3)] 33 (0, 0))) ∧ Aside0 (wc.heap[gb421]? = some (.cells #[.string x422000_3, .int .i64 x422001_3, .int .i64 x422002_3, (.slice none 0 0)] 33 (0, 0))) ∧ Aside0 (Below w.heap.size w wc))
       case first =>
        have H := HC76.out
        clear HC76
        by_cases c81 : t450 = 0
        ·rw [if_pos c81] at H
         have c81b0 : (t450 == 0) = true := beq_iff_eq.mpr c81
         have c81b1 : (t450 != 0) = false := bne_eq_false_iff_eq.mpr c81
         clear c81
         (first | rw [c81b0] | (simp only [i64_w, i32_w]; rw [c81b0]) | skip)
         have H' := aK H
         clear H
         go_wp2
         go_meet
         case rel => exact ⟨_, (false), (by first | rfl | (simp; done) | (simp [*]; done)), H', ⟨by have := HK1.out; have := HK2.out; have := HK3.out; first | omega | exact Nat.le_refl _⟩, ⟨HO_9.out⟩, ⟨HO_12.out⟩, ⟨HO_420003.out⟩, ⟨HO_421003.out⟩, ⟨BK419.out⟩, ⟨BK420.out⟩, ⟨BK421.out⟩, ⟨by repeat (first | (with_reducible first | exact HB.out | apply yA | apply yN | apply yD | refine yS ?_ GE419.out | refine yS ?_ GE420.out | refine yS ?_ GE421.out) | exact HB.out)⟩⟩
        rw [if_neg c81] at H
        have c81b0 : (t450 == 0) = false := beq_eq_false_iff_ne.mpr c81
        have c81b1 : (t450 != 0) = true := bne_iff_ne.mpr c81
        (first | rw [c81b0] | (simp only [i64_w, i32_w]; rw [c81b0]) | skip)
        by_cases c82 : t452 = 0
        rotate_left
        ·rw [if_neg c82] at H
         have c82b0 : (t452 == 0) = false := beq_eq_false_iff_ne.mpr c82
         have c82b1 : (t452 != 0) = true := bne_iff_ne.mpr c82
         have H' := aK H
         clear H
         go_wp2
         go_meet
         case rel => exact ⟨_, ((t450 != t452)), (by first | rfl | (simp; done) | (simp [*]; done)), H', ⟨by have := HK1.out; have := HK2.out; have := HK3.out; first | omega | exact Nat.le_refl _⟩, ⟨HO_9.out⟩, ⟨HO_12.out⟩, ⟨HO_420003.out⟩, ⟨HO_421003.out⟩, ⟨BK419.out⟩, ⟨BK420.out⟩, ⟨BK421.out⟩, ⟨by repeat (first | (with_reducible first | exact HB.out | apply yA | apply yN | apply yD | refine yS ?_ GE419.out | refine yS ?_ GE420.out | refine yS ?_ GE421.out) | exact HB.out)⟩⟩
        rw [if_pos c82] at H
        have c82b0 : (t452 == 0) = true := beq_iff_eq.mpr c82
        have c82b1 : (t452 != 0) = false := bne_eq_false_iff_eq.mpr c82
        clear c82
        have H' := aK H
        clear H
        go_wp2
        go_meet
        case rel => exact ⟨_, (false), (by first | rfl | (simp; done) | (simp [*]; done)), H', ⟨by have := HK1.out; have := HK2.out; have := HK3.out; first | omega | exact Nat.le_refl _⟩, ⟨HO_9.out⟩, ⟨HO_12.out⟩, ⟨HO_420003.out⟩, ⟨HO_421003.out⟩, ⟨BK419.out⟩, ⟨BK420.out⟩, ⟨BK421.out⟩, ⟨by repeat (first | (with_reducible first | exact HB.out | apply yA | apply yN | apply yD | refine yS ?_ GE419.out | refine yS ?_ GE420.out | refine yS ?_ GE421.out) | exact HB.out)⟩⟩
       case rest =>
        clear HC76
        try clear c1
        try clear c2
        try clear p2
        try clear c3
        try clear c4
        try clear p4
        try clear q4
        try clear hx4
        try clear c5
        try clear c6
        try clear p6
        try clear c7
        try clear c8
        try clear c9
        try clear c14
        try clear c14b0
        try clear c15
        try clear c15b0
        try clear c16
        try clear c16b0
        try clear c18
        try clear c18b0
        try clear c18b1
        try clear c20
        try clear c21
        try clear c22
        try clear c26
        try clear c27
        try clear c28
        try clear c31
        try clear c32
        try clear c34
        try clear c34b0
        try clear c35
        try clear c36
        try clear c38
        try clear c42
        try clear p42
        try clear q42
        try clear hx42
        try clear c43
        try clear p43
        try clear q43
        try clear hx43
        try clear p44
        try clear q44
        try clear hx44
        try clear c45
        try clear p45
        try clear q45
        try clear hx45
        try clear c46
        try clear c52
        try clear c52b0
        try clear c53
        try clear c53b0
        try clear c54
        try clear c54b0
        try clear c55
        try clear c56
        try clear c57
        try clear c58
        try clear c59
        try clear p64
        try clear c70
        try clear c70b0
        try clear c72
        try clear c72b0
        try clear c73
        try clear c73b0
        try clear c81
        try clear c81b0
        try clear c81b1
        try clear c82
        try clear c82b0
        try clear c82b1
        try clear hcz10_0
        try clear hcz10_1
        try clear hcz10_2
        try clear hcz10_3
        try clear hcz23_0
        try clear hcz23_1
        try clear hcz23_2
        try clear hcz23_3
        try clear hcz29_0
        try clear hcz29_1
        try clear hcz29_2
        try clear hcz29_3
        try clear hcz33_0
        try clear hcz33_1
        try clear hcz33_2
        try clear hcz33_3
        try clear hcz37_0
        try clear hcz37_1
        try clear hcz37_2
        try clear hcz37_3
        try clear hcz39_0
        try clear hcz39_1
        try clear hcz39_2
        try clear hcz39_3
        try clear hcz40_0
        try clear hcz40_1
        try clear hcz40_2
        try clear hcz40_3
        try clear hcz44_0
        try clear hcz44_1
        try clear hcz44_2
        try clear hcz44_3
        try clear hcz46_0
        try clear hcz46_1
        try clear hcz46_2
        try clear hcz46_3
        try clear hcz60_0
        try clear hcz60_1
        try clear hcz60_2
        try clear hcz8_0
        try clear hcz8_1
        try clear hcz8_2
        try clear hcz8_3
        try clear hfz10_0
        try clear hfz10_1
        try clear hfz10_2
        try clear hfz10_3
        try clear hfz23_0
        try clear hfz23_1
        try clear hfz23_2
        try clear hfz23_3
        try clear hfz29_0
        try clear hfz29_1
        try clear hfz29_2
        try clear hfz29_3
        try clear hfz33_0
        try clear hfz33_1
        try clear hfz33_2
        try clear hfz33_3
        try clear hfz37_0
        try clear hfz37_1
        try clear hfz37_2
        try clear hfz37_3
        try clear hfz39_0
        try clear hfz39_1
        try clear hfz39_2
        try clear hfz39_3
        try clear hfz40_0
        try clear hfz40_1
        try clear hfz40_2
        try clear hfz40_3
        try clear hfz44_0
        try clear hfz44_1
        try clear hfz44_2
        try clear hfz44_3
        try clear hfz46_0
        try clear hfz46_1
        try clear hfz46_2
        try clear hfz46_3
        try clear hfz60_0
        try clear hfz60_1
        try clear hfz60_2
        try clear hfz8_0
        try clear hfz8_1
        try clear hfz8_2
        try clear hfz8_3
        try clear hx425_0
        try clear hx425_1
        try clear hx425_2
        try clear hx425_3
        try clear hx434_0
        try clear hx434_1
        try clear hx434_2
        try clear hx449_0
        try clear hx451_0
        try clear p2
        try clear p4
        try clear p42
        try clear p425
        try clear p43
        try clear p434
        try clear p449
        try clear p451
        try clear p6
        try clear p64
        try clear q4
        try clear q42
        try clear q425
        try clear q43
        try clear q434
        try clear q449
        try clear q451
        obtain ⟨kq, x90_75, rfl, HA, HJ75, HO_9, HO_12, HO_420003, HO_421003, BK419, BK420, BK421, HB⟩ := hcut
        cases kq with
        | zero => exact absurd HA.out (by simp [boring_Merge.j3])
        | succ kj75 =>
         have H := HA.out
         clear HA
         simp only [boring_Merge.j3] at H
         by_cases c83 : x90_75 = true
         ·subst c83
          have H1 : (some ((⟨#[]⟩ : ByteArray), 0, 0, ([] : List (S48)), 10)) = some (r1, r2, r3, r4, r5) := by rw [if_pos rfl] at H; exact H
          clear H
          have H := H1
          clear H1
          simp only [Option.some.injEq, Prod.mk.injEq] at H
          obtain ⟨rfl, rfl, rfl, rfl, rfl⟩ := H
          have hnb84 := NB421_419.out
          have hnc84 := NB419_421.out
          have hnb85 := NB421_420.out
          have hnc85 := NB420_421.out
          have hcz86_0 := zI BK421 0 rfl
          have hcz86_1 := zI BK421 1 rfl
          have hcz86_2 := zI BK421 2 rfl
          have hcz86_3 := zI BK421 3 rfl
          have hfz86_0 := zF BK421.out 0
          have hfz86_1 := zF BK421.out 1
          have hfz86_2 := zF BK421.out 2
          have hfz86_3 := zF BK421.out 3
          go_wp2
          refine bodyPost_ret (results_ct rfl _ _ gb421 33 #[.string (⟨#[]⟩ : ByteArray), .int .i64 0, .int .i64 0, .slice none 0 0] (0, 0) _ rfl (by refine blk_put (cs := #[.string (⟨#[]⟩ : ByteArray), .int .i64 0, .int .i64 0, .slice none 0 0]) ?_ 3 _ rfl; refine blk_put (cs := #[.string (⟨#[]⟩ : ByteArray), .int .i64 0, .int .i64 x422002_3, .slice none 0 0]) ?_ 2 _ rfl; refine blk_put (cs := #[.string (⟨#[]⟩ : ByteArray), .int .i64 x422001_3, .int .i64 x422002_3, .slice none 0 0]) ?_ 1 _ rfl; refine blk_put (cs := #[.string x422000_3, .int .i64 x422001_3, .int .i64 x422002_3, .slice none 0 0]) ?_ 0 _ rfl; exact BK421.out) Tryz.underlying33 rfl (by kernel_rfl)) rfl ?_
          exact ⟨_, by first | rfl | (simp [errW_none, errW_some] <;> rfl) | (simp only [← hji71]; first | rfl | (simp [errW_none, errW_some] <;> rfl)) | (simp [*, errW_none, errW_some] <;> rfl), by first | exact Kd.R_nil _ _ _ _ _ | exact Kd.N_nil _ _ _ _ _ | exact Kd.V_nil _ _ _ _ _ | exact Kd.Q_nil _ _ _ _ _ | exact Kd.S_nil _ _ _ _ _, by repeat (first | (with_reducible first | exact HB.out | apply yA | apply yN | apply yD | refine yS ?_ GE419.out | refine yS ?_ GE420.out | refine yS ?_ GE421.out) | exact HB.out)⟩
         replace c83 := Bool.eq_false_iff.mpr c83
         subst c83
         have H1 : (if (mx t450 t452) = 0 then (boring_Merge.l2 kj75 t443 x12_3 (wrap64 (x13_3 + 1)) a0_0 a0_1 a0_2 l0_3 a1_0 a1_1 a1_2 l1_3) else (if 0 ≤ (wrap64 (x13_3 - 1)) then (if (wrap64 (x13_3 - 1)) < (t443.length : Int) then (if 0 ≤ x13_3 then (if x13_3 < (t443.length : Int) then (if x12_3.length < 5864062014805 then (boring_Merge.l2 kj75 t443 (x12_3 ++ [(⟨rd t443 (wrap64 (x13_3 - 1)), rd t443 x13_3, mx t450 t452⟩ : S48)]) (wrap64 (x13_3 + 1)) a0_0 a0_1 a0_2 l0_3 a1_0 a1_1 a1_2 l1_3) else (none)) else (none)) else (none)) else (none)) else (none))) = some (r1, r2, r3, r4, r5) := by rw [if_neg (show ¬ (false = true) by decide)] at H; exact H
         clear H
         have H := H1
         clear H1
         obtain ⟨ji87, hji87⟩ : ∃ j_ : Int, (mx t450 t452) = j_ := ⟨_, rfl⟩
         replace H : (if (ji87) = 0 then (boring_Merge.l2 kj75 t443 x12_3 (wrap64 (x13_3 + 1)) a0_0 a0_1 a0_2 l0_3 a1_0 a1_1 a1_2 l1_3) else (if 0 ≤ (wrap64 (x13_3 - 1)) then (if (wrap64 (x13_3 - 1)) < (t443.length : Int) then (if 0 ≤ x13_3 then (if x13_3 < (t443.length : Int) then (if x12_3.length < 5864062014805 then (boring_Merge.l2 kj75 t443 (x12_3 ++ [(⟨rd t443 (wrap64 (x13_3 - 1)), rd t443 x13_3, ji87⟩ : S48)]) (wrap64 (x13_3 + 1)) a0_0 a0_1 a0_2 l0_3 a1_0 a1_1 a1_2 l1_3) else (none)) else (none)) else (none)) else (none)) else (none))) = some (r1, r2, r3, r4, r5) := by first | (rw [hji87] at H; exact H) | (simp only [hji87] at H ⊢; exact H)
         have hji87_ : (if t450 < t452 then t452 else t450) = ji87 := hji87
         by_cases c88 : (ji87) = 0
         ·rw [if_pos c88] at H
          have c88b0 : ((ji87) == 0) = true := beq_iff_eq.mpr c88
          have c88b1 : ((ji87) != 0) = false := bne_eq_false_iff_eq.mpr c88
          clear c88
          have H' := aK H
          clear H
          go_wp2
          go_roundg kj75
          case measure => have := HK1.out; have := HK2.out; have := HK3.out; have := HJ75.out; omega
          case rel => exact ⟨(x12_3), (wrap64 (x13_3 + 1)), (x422000_3), (x422001_3), (x422002_3), (by first | rfl | (simp; done) | (simp [*]; done)), H', ⟨by have := HK1.out; have := HK2.out; have := HK3.out; have := HJ75.out; omega⟩, ⟨HO_9.out⟩, ⟨HO_12.out⟩, ⟨HO_420003.out⟩, ⟨HO_421003.out⟩, ⟨BK419.out⟩, ⟨BK420.out⟩, ⟨BK421.out⟩, ⟨HB.out⟩⟩
         rw [if_neg c88] at H
         have c88b0 : ((ji87) == 0) = false := beq_eq_false_iff_ne.mpr c88
         have c88b1 : ((ji87) != 0) = true := bne_iff_ne.mpr c88
         obtain ⟨ji89, hji89⟩ : ∃ j_ : Int, (wrap64 (x13_3 - 1)) = j_ := ⟨_, rfl⟩
         (try (have hq_ : ji89 = ji71 := hji89.symm.trans hji71; subst hq_))
         replace H : (if 0 ≤ (ji89) then (if (ji89) < (t443.length : Int) then (if 0 ≤ x13_3 then (if x13_3 < (t443.length : Int) then (if x12_3.length < 5864062014805 then (boring_Merge.l2 kj75 t443 (x12_3 ++ [(⟨rd t443 (ji89), rd t443 x13_3, ji87⟩ : S48)]) (wrap64 (x13_3 + 1)) a0_0 a0_1 a0_2 l0_3 a1_0 a1_1 a1_2 l1_3) else (none)) else (none)) else (none)) else (none)) else (none)) = some (r1, r2, r3, r4, r5) := by first | (rw [hji89] at H; exact H) | (simp only [hji89] at H ⊢; exact H)
         have hji89w : (IntKind.i64.wrap (x13_3 - 1)) = ji89 := (i64_w _).trans hji89
         by_cases c90 : 0 ≤ (ji89)
         rotate_left
         ·rw [if_neg c90] at H
          exact absurd H (by simp)
         rw [if_pos c90] at H
         have c90b0 : decide (0 ≤ (ji89)) = true := decide_eq_true c90
         clear c90
         by_cases c91 : (ji89) < (t443.length : Int)
         rotate_left
         ·rw [if_neg c91] at H
          exact absurd H (by simp)
         rw [if_pos c91] at H
         have c91b0 : decide ((ji89) < (t443.length : Int)) = true := decide_eq_true c91
         clear c91
         by_cases c92 : 0 ≤ x13_3
         rotate_left
         ·rw [if_neg c92] at H
          exact absurd H (by simp)
         rw [if_pos c92] at H
         have c92b0 : decide (0 ≤ x13_3) = true := decide_eq_true c92
         clear c92
         by_cases c93 : x13_3 < (t443.length : Int)
         rotate_left
         ·rw [if_neg c93] at H
          exact absurd H (by simp)
         rw [if_pos c93] at H
         have c93b0 : decide (x13_3 < (t443.length : Int)) = true := decide_eq_true c93
         clear c93
         by_cases c94 : x12_3.length < 5864062014805
         rotate_left
         ·rw [if_neg c94] at H
          exact absurd H (by simp)
         rw [if_pos c94] at H
         have LMc94 := aK c94
         clear c94
         obtain ⟨y455, hy455⟩ : ∃ y_ : List (S48), y_ = (x12_3 ++ [(⟨rd t443 (ji89), rd t443 x13_3, ji87⟩ : S48)]) := ⟨_, rfl⟩
         replace H : (boring_Merge.l2 kj75 t443 y455 (wrap64 (x13_3 + 1)) a0_0 a0_1 a0_2 l0_3 a1_0 a1_1 a1_2 l1_3) = some (r1, r2, r3, r4, r5) := by first | (rw [hy455]; with_reducible exact H) | (have H2_ := (Option.bind_some _ _).symm.trans H; rw [hy455]; with_reducible exact H2_) | (have H2_ := (Option.bind_some _ _).symm.trans H; with_reducible exact H2_) | with_reducible exact H | (rw [hy455]; exact H) | exact H
         have Ny455 := aK hy455
         clear hy455
         have H' := aK H
         clear H
         try go_wp2
         have n0_ := aK (Kd.R_drew HO_9.out)
         have n1_ := aK (Kd.R_drew HO_12.out)
         have n2_ := aK (Kd.V_drew HO_420003.out)
         have n3_ := aK (Kd.V_drew HO_421003.out)
         have n4_ := aK (zD BK419.out)
         have n5_ := aK (zD BK420.out)
         have n6_ := aK (zD BK421.out)
         have n7_ := aK (yD HB.out)
         clear HO_9
         clear HO_12
         clear HO_420003
         clear HO_421003
         clear BK419
         clear BK420
         clear BK421
         clear HB
         have HO_9 := n0_
         have HO_12 := n1_
         have HO_420003 := n2_
         have HO_421003 := n3_
         have BK419 := n4_
         have BK420 := n5_
         have BK421 := n6_
         have HB := n7_
         clear n0_ n1_ n2_ n3_ n4_ n5_ n6_ n7_
         have p453 : 0 ≤ ((ji89) : Int) := of_decide_eq_true (by assumption)
         have q453 : (ji89) < (t443.length : Int) := of_decide_eq_true (by assumption)
         obtain ⟨ad453, e453, hx453_0⟩ := Kd.at_int (Kd.R_reads' HO_9.out).2.2 (ji89) p453 q453
         obtain rfl : ad449 = ad453 := (by injection e453)
         replace p453 := eq_true p453
         replace q453 := eq_true q453
         have p454 : 0 ≤ (x13_3 : Int) := of_decide_eq_true (by assumption)
         have q454 : x13_3 < (t443.length : Int) := of_decide_eq_true (by assumption)
         obtain ⟨ad454, e454, hx454_0⟩ := Kd.at_int (Kd.R_reads' HO_9.out).2.2 x13_3 p454 q454
         obtain rfl : ad449 = ad454 := (by injection e454)
         replace p454 := eq_true p454
         replace q454 := eq_true q454
         refine start_ (n := 15) (S := fun w' => w'.cell? (ad449.add ((ji89)).toNat) = some (.int .i64 (rd t443 (ji89))) ∧ w'.cell? (ad449.add (x13_3).toNat) = some (.int .i64 (rd t443 x13_3))) (ds := [12, 13]) #[false, false, false, false, false, false, false, false, false, false, false, false, false, false, false] (by kernel_rfl) rfl rfl ⟨hx453_0, hx454_0⟩ (fun hHeld => ?_); refine with_tabW boring_Merge.tab27 boring_Merge.bits27 (fun HT_ HW_ => ?_)
         generalize wc.drew = w95 at HO_9 HO_12 HO_420003 HO_421003 BK419 BK420 BK421 HB hx453_0 hx454_0 hHeld ⊢
         refine pure_ (i := 0) (N := some 97) (v := ?_) (a' := ?_) #[true, false, false, false, false, false, false, false, false, false, false, false, false, false, false] rfl rfl (any_of HT_.out (by kernel_rfl)) (fun _ _ _ h => h) (Or.inl ⟨by rfl, ?_⟩) ?_ ?_
         rotate_left
         ·intro w'
          go_simp
          with_reducible rfl
         rotate_left
         ·simp only [Act.put, sA, sZ, sS, i64_w, i32_w]
          rfl
         refine pure_ (i := 1) (N := some 98) (v := ?_) (a' := ?_) #[true, true, false, false, false, false, false, false, false, false, false, false, false, false, false] rfl rfl (any_of HT_.out (by kernel_rfl)) (fun _ _ _ h => h) (Or.inl ⟨by rfl, ?_⟩) ?_ ?_
         rotate_left
         ·intro w'
          go_simp
          with_reducible rfl
         rotate_left
         ·simp only [Act.put, sA, sZ, sS, i64_w, i32_w]
          rfl
         refine pure_ (i := 2) (N := some 99) (v := ?_) (a' := ?_) #[true, true, true, false, false, false, false, false, false, false, false, false, false, false, false] rfl rfl (any_of HT_.out (by kernel_rfl)) (fun _ _ _ h => h) (Or.inl ⟨by rfl, ?_⟩) ?_ ?_
         rotate_left
         ·intro w'
          go_simp
          with_reducible rfl
         rotate_left
         ·simp only [Act.put, sA, sZ, sS, i64_w, i32_w]
          rfl
         refine pure_ (i := 3) (N := some 100) (v := ?_) (a' := ?_) #[true, true, true, true, false, false, false, false, false, false, false, false, false, false, false] rfl rfl (any_of HT_.out (by kernel_rfl)) (fun _ _ _ h => h) (Or.inl ⟨by rfl, ?_⟩) ?_ ?_
         rotate_left
         ·intro w'
          go_simp
          with_reducible rfl
         rotate_left
         ·simp only [Act.put, sA, sZ, sS, i64_w, i32_w]
          rfl
         refine pure_ (i := 4) (N := some 101) (v := ?_) (a' := ?_) #[true, true, true, true, true, false, false, false, false, false, false, false, false, false, false] rfl rfl (any_of HT_.out (by kernel_rfl)) (fun _ _ _ h => h) (Or.inl ⟨by rfl, ?_⟩) ?_ ?_
         rotate_left
         ·intro w'
          go_simp
          with_reducible rfl
         rotate_left
         ·simp only [Act.put, sA, sZ, sS, i64_w, i32_w]
          rfl
         refine pure_ (i := 6) (N := some 103) (v := ?_) (a' := ?_) #[true, true, true, true, true, false, true, false, false, false, false, false, false, false, false] rfl rfl (any_of HT_.out (by kernel_rfl)) (fun _ _ _ h => h) (Or.inl ⟨by rfl, ?_⟩) ?_ ?_
         rotate_left
         ·intro w'
          go_simp
          with_reducible rfl
         rotate_left
         ·simp only [Act.put, sA, sZ, sS, i64_w, i32_w]
          rfl
         refine pure_ (i := 7) (N := some 104) (v := ?_) (a' := ?_) #[true, true, true, true, true, false, true, true, false, false, false, false, false, false, false] rfl rfl (any_of HT_.out (by kernel_rfl)) (fun _ _ _ h => h) (Or.inl ⟨by rfl, ?_⟩) ?_ ?_
         rotate_left
         ·intro w'
          go_simp
          with_reducible rfl
         rotate_left
         ·simp only [Act.put, sA, sZ, sS, i64_w, i32_w]
          rfl
         refine pure_ (i := 8) (N := some 105) (v := ?_) (a' := ?_) #[true, true, true, true, true, false, true, true, true, false, false, false, false, false, false] rfl rfl (any_of HT_.out (by kernel_rfl)) (fun _ _ _ h => h) (Or.inl ⟨by rfl, ?_⟩) ?_ ?_
         rotate_left
         ·intro w'
          go_simp
          with_reducible rfl
         rotate_left
         ·simp only [Act.put, sA, sZ, sS, i64_w, i32_w]
          rfl
         refine pure_ (i := 10) (N := some 107) (v := ?_) (a' := ?_) #[true, true, true, true, true, false, true, true, true, false, true, false, false, false, false] rfl rfl (any_of HT_.out (by kernel_rfl)) (fun _ _ _ h => h) (Or.inl ⟨by rfl, ?_⟩) ?_ ?_
         rotate_left
         ·intro w'
          go_simp
          with_reducible rfl
         rotate_left
         ·simp only [Act.put, sA, sZ, sS, i64_w, i32_w]
          rfl
         refine take_ (i := 5) (N := some 102) (v := ?_) (a' := ?_) #[true, true, true, true, true, true, true, true, true, false, true, false, false, false, false] rfl rfl (take_ofW HT_.out HW_.out (by kernel_rfl)) (fun _ _ _ h => h) (Or.inl ⟨by rfl, ?_⟩) hHeld ?_ ?_
         rotate_left
         ·rintro w' ⟨s0, s1⟩
          go_simp
          with_reducible rfl
         rotate_left
         ·simp only [Act.put, sA, sZ, sS, i64_w, i32_w]
          rfl
         refine take_ (i := 9) (N := some 106) (v := ?_) (a' := ?_) #[true, true, true, true, true, true, true, true, true, true, true, false, false, false, false] rfl rfl (take_ofW HT_.out HW_.out (by kernel_rfl)) (fun _ _ _ h => h) (Or.inl ⟨by rfl, ?_⟩) hHeld ?_ ?_
         rotate_left
         ·rintro w' ⟨s0, s1⟩
          go_simp
          with_reducible rfl
         rotate_left
         ·simp only [Act.put, sA, sZ, sS, i64_w, i32_w]
          rfl
         refine pure_ (i := 11) (N := some 108) (v := ?_) (a' := ?_) #[true, true, true, true, true, true, true, true, true, true, true, true, false, false, false] rfl rfl (any_of HT_.out (by kernel_rfl)) (fun _ _ _ h => h) (Or.inl ⟨by rfl, ?_⟩) ?_ ?_
         rotate_left
         ·intro w'
          go_simp
          with_reducible rfl
         rotate_left
         ·simp only [Act.put, sA, sZ, sS, i64_w, i32_w]
          rfl
         refine last_ (i := 12) (N := some 109) #[true, true, true, true, true, true, true, true, true, true, true, true, true, false, false] rfl rfl (one_of HT_.out (by kernel_rfl)) (by decide) (fun K hK => ?_)
         refine value_ (w1 := ?_) (v := ?_) (by rfl) rfl ?_ ?_
         rotate_left 2
         ·go_simp
          constructor
          ·rfl
          ·rfl
         refine hK.out _ _ ?_
         clear hK K
         refine norm_ (a' := ?_) ?_ ?_
         rotate_left
         ·show Act.put _ (some 109) _ = _
          simp only [Act.put, sA, sZ, sS, i64_w, i32_w]
          rfl
         refine last_ (i := 13) (N := some 110) #[true, true, true, true, true, true, true, true, true, true, true, true, true, true, false] rfl rfl (one_of HT_.out (by kernel_rfl)) (by decide) (fun K hK => ?_)
         refine Kd.R_append_step k48 (w0 := w) w.heap.size (by rfl) (.tmp 97) (.tmp 109) 31 48 (.agg #[(.int .i64 0), (.int .i64 0), (.int .i64 0)]) 24 rfl Tryz.underlying31 info48 rfl (by decide) (by omega) u12 x12_3 (⟨rd t443 (ji89), rd t443 x13_3, ji87⟩ : S48) [.int .i64 (rd t443 (ji89)), .int .i64 (rd t443 x13_3), .int .i64 ji87] (fun k_ => (w.heap.size ≤ k_)) (fun _ => False) rfl rfl ?aP (fun _ hk => hk.elim) ?aF ?aO ?aB ?aS ?aL ?_
         (case aP => exact k48_mkM _ _ _ (⟨rd t443 (ji89), rd t443 x13_3, ji87⟩ : S48))
         (case aB => exact (HB.out))
         (case aF => exact (fun k_ hk => (Nat.le_trans (yZ (HB.out)) hk)))
         (case aO => exact (HO_12.out))
         (case aS => exact (yZ (HB.out)))
         (case aL => have := LMc94.out; omega)
         intro v456 w96 ho hb hg hat
         rw [← Ny455.out] at ho
         have n0_ := aK (Kd.R_over' (HO_9.out) (Kd.R_typed (HO_12.out)) (by decide) hg)
         have n1_ := aK (Kd.V_afterv (ok := (fun k_ => ((P0_3_ k_ ∨ P1_3_ k_) ∨ w.heap.size ≤ k_) ∧ some k_ ≠ (.slice (some ad449) t443.length co77 : Value).ownBlock ∧ k_ ≠ gb419 ∧ k_ ≠ gb420 ∧ k_ ≠ gb421)) (by (with_reducible repeat (first | apply Kd.V_alloc | apply Kd.V_drewN | apply Kd.V_drew)); exact Kd.V_mono HO_420003.out (fun _ hk => ⟨⟨hk.1, ⟨hk.2.1, ⟨hk.2.2.2.1, ⟨hk.2.2.2.2.1, hk.2.2.2.2.2⟩⟩⟩⟩, hk.2.2.1⟩)) hg hat)
         have n2_ := aK (Kd.V_afterv (ok := (fun k_ => ((P0_3_ k_ ∨ P1_3_ k_) ∨ w.heap.size ≤ k_) ∧ some k_ ≠ (.slice (some ad449) t443.length co77 : Value).ownBlock ∧ k_ ≠ gb419 ∧ k_ ≠ gb420 ∧ k_ ≠ gb421)) (by (with_reducible repeat (first | apply Kd.V_alloc | apply Kd.V_drewN | apply Kd.V_drew)); exact Kd.V_mono HO_421003.out (fun _ hk => ⟨⟨hk.1, ⟨hk.2.1, ⟨hk.2.2.2.1, ⟨hk.2.2.2.2.1, hk.2.2.2.2.2⟩⟩⟩⟩, hk.2.2.1⟩)) hg hat)
         have n3_ := aK (blk_grown (g := gb419) (o := .cells #[.string a0_0, .int .i64 a0_1, .int .i64 a0_2, .slice A0_3 l0_3.length c0_3] 33 (0, 0)) (BK419.out) hg (Kd.R_ne HO_12.out BK419.out (by decide)))
         have n4_ := aK (blk_grown (g := gb420) (o := .cells #[.string a1_0, .int .i64 a1_1, .int .i64 a1_2, .slice A1_3 l1_3.length c1_3] 33 (0, 0)) (BK420.out) hg (Kd.R_ne HO_12.out BK420.out (by decide)))
         have n5_ := aK (blk_grown (g := gb421) (o := .cells #[.string x422000_3, .int .i64 x422001_3, .int .i64 x422002_3, .slice none 0 0] 33 (0, 0)) (BK421.out) hg (Kd.R_ne HO_12.out BK421.out (by decide)))
         have n6_ := aK (hb)
         have n7_ := aK (ho)
         clear HO_9
         clear HO_420003
         clear HO_421003
         clear BK419
         clear BK420
         clear BK421
         clear HB
         clear HO_12
         have HO_9 := n0_
         have HO_420003 := n1_
         have HO_421003 := n2_
         have BK419 := n3_
         have BK420 := n4_
         have BK421 := n5_
         have HB := n6_
         have HO457 := n7_
         clear n0_ n1_ n2_ n3_ n4_ n5_ n6_ n7_
         clear ho hb hg hat
         refine hK.out _ _ ?_
         clear hK K
         refine norm_ (a' := ?_) ?_ ?_
         rotate_left
         ·show Act.put _ (some 110) _ = _
          simp only [Act.put, sA, sZ, sS, i64_w, i32_w]
          rfl
         refine pure_ (i := 14) (N := some 12) (v := ?_) (a' := ?_) #[true, true, true, true, true, true, true, true, true, true, true, true, true, true, true] rfl rfl (any_of HT_.out (by kernel_rfl)) (fun _ _ _ h => h) (Or.inl ⟨by rfl, ?_⟩) ?_ ?_
         rotate_left
         ·intro w'
          go_simp
          with_reducible rfl
         rotate_left
         ·simp only [Act.put, sA, sZ, sS, i64_w, i32_w]
          rfl
         refine done_ (done_of HT_.out (by kernel_rfl)) ?_
         try go_wp2
         go_roundg kj75
         case measure => have := HK1.out; have := HK2.out; have := HK3.out; have := HJ75.out; omega
         case rel => exact ⟨(y455), (wrap64 (x13_3 + 1)), (x422000_3), (x422001_3), (x422002_3), (by first | rfl | (simp; done) | (simp [*]; done)), H', ⟨by have := HK1.out; have := HK2.out; have := HK3.out; have := HJ75.out; omega⟩, ⟨HO_9.out⟩, ⟨HO457.out⟩, ⟨by (with_reducible repeat (first | apply Kd.V_alloc | apply Kd.V_drewN | apply Kd.V_drew)); exact Kd.V_mono HO_420003.out (fun _ hk => ⟨hk.1.1, ⟨hk.1.2.1, ⟨hk.2, ⟨hk.1.2.2.1, ⟨hk.1.2.2.2.1, hk.1.2.2.2.2⟩⟩⟩⟩⟩)⟩, ⟨by (with_reducible repeat (first | apply Kd.V_alloc | apply Kd.V_drewN | apply Kd.V_drew)); exact Kd.V_mono HO_421003.out (fun _ hk => ⟨hk.1.1, ⟨hk.1.2.1, ⟨hk.2, ⟨hk.1.2.2.1, ⟨hk.1.2.2.2.1, hk.1.2.2.2.2⟩⟩⟩⟩⟩)⟩, ⟨BK419.out⟩, ⟨BK420.out⟩, ⟨BK421.out⟩, ⟨HB.out⟩⟩

end Go.Proofs.YtfedmcehkpfciaaGreat.P
