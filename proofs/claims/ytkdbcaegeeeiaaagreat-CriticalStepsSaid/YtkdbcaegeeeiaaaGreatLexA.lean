/-
 The table of the classes of bytes (lexer.table, lexer.classes): what the calls return.
-/
import Derived.Test.YtkdbcaegeeeiaaaGreatProg
import Derived.Test.YtkdbcaegeeeiaaaGreatM1
import Derived.KernelRfl
import Derived.Laws.RangeString
set_option linter.unusedVariables false
set_option linter.unusedSimpArgs false
namespace Go.Proofs.YtkdbcaegeeeiaaaGreat.LexA
open Go.RowKit Go.Proofs.YtkdbcaegeeeiaaaGreatW.PrintWords Go.Proofs.YtkdbcaegeeeiaaaGreatW.PrintLast Go.Proofs.YtkdbcaegeeeiaaaGreatW.PrintMore

def zA : Array Value := Array.replicate 256 (.int .u8 0)
def tA : Nat → Array Value
 | 0 => zA
 | k + 1 => ((tA k).setIfInBounds (97 + k) (.int .u8 1)).setIfInBounds (k + 65) (.int .u8 1)
theorem tA_size (k : Nat) : (tA k).size = 256 := by
 induction k with
 | zero => simp [tA, zA]
 | succ k ih => simp [tA, ih]
def tB : Nat → Array Value
 | 0 => tA 26
 | k + 1 => (tB k).setIfInBounds (48 + k) (.int .u8 2)
theorem tB_size (k : Nat) : (tB k).size = 256 := by
 induction k with
 | zero => exact tA_size _
 | succ k ih => simp [tB, ih]
def signs : ByteArray := ⟨#[40, 41, 44, 61, 58, 60, 62, 43, 47]⟩
def sg (k : Nat) : Nat := if h : k < signs.size then (signs[k]'h).toNat else 0
theorem sg_eq (k : Nat) (h : k < signs.size) : (signs[k]'h).toNat = sg k := by simp [sg, h]
theorem sg_lt : ∀ k, k < 9 → sg k < 128 := by decide
def tC : Nat → Array Value
 | 0 => (tB 10).setIfInBounds 95 (.int .u8 3)
 | k + 1 => (tC k).setIfInBounds (sg k) (.int .u8 4)
theorem tC_size (k : Nat) : (tC k).size = 256 := by
 induction k with
 | zero => simp [tC, tB_size]
 | succ k ih => simp [tC, ih]
structure Blk (w : World) (g : Nat) (cs : Array Value) : Prop where mk :: (out : w.heap[g]? = some (.cells cs 171 (0, 0)))
structure Itr (w : World) (g : Nat) (s : ByteArray) (pos : Nat) : Prop where mk :: (out : w.heap[g]? = some (.stringIter s pos))
theorem Blk.cell {w : World} {g : Nat} {cs : Array Value} (h : Blk w g cs) (hs : cs.size = 256) (i : Nat) (hi : i < 256) : w.cell? ⟨g, i, none⟩ = some (cs[i]!) := by
 rw [blk_cell h.out]; simp [getElem!_pos, getElem?_pos, hs, hi]
theorem Blk.set {w : World} {g : Nat} {cs : Array Value} (h : Blk w g cs) (i : Nat) (v : Value) : Blk (w.setCell ⟨g, i, none⟩ v) g (cs.setIfInBounds i v) := ⟨blk_set h.out i v⟩
theorem Blk.far {w : World} {g g' : Nat} {cs : Array Value} (h : Blk w g cs) (hne : g ≠ g') (i : Nat) (v : Value) : Blk (w.setCell ⟨g', i, none⟩ v) g cs := ⟨blk_far h.out hne v⟩
theorem Itr.far {w : World} {g g' : Nat} {s : ByteArray} {pos : Nat} (h : Itr w g s pos) (hne : g ≠ g') (i : Nat) (v : Value) : Itr (w.setCell ⟨g', i, none⟩ v) g s pos := ⟨(Below.heap_setCell w _ v g hne).trans h.out⟩
theorem Itr.next {w : World} {g : Nat} {s : ByteArray} {pos : Nat} (h : Itr w g s pos) (P : Program) (ty : TypeId) (hp : pos < s.size) (ha : (s[pos]'hp).toNat < 128) :
  (Instr.next (.pointer (some ⟨g, 0, none⟩)) true ty).run P w = .ok (.tuple #[.bool true, .int .i64 pos, .int .i32 (s[pos]'hp).toNat]) { w with heap := w.heap.setIfInBounds g (.stringIter s (pos + 1)) } := by
 simp [Instr.next, getObj, setObj, Sem.run_bind, Sem.run, h.out, Result.andThen, hp, decode_ascii s pos hp ha, goInt]
theorem Itr.over {w : World} {g : Nat} {s : ByteArray} {pos : Nat} (h : Itr w g s pos) (P : Program) (ty : TypeId) (hp : ¬ pos < s.size) :
  (Instr.next (.pointer (some ⟨g, 0, none⟩)) true ty).run P w = .ok (.tuple #[.bool false]) w := by
 simp [Instr.next, getObj, Sem.run, h.out, hp]
theorem Itr.step {w : World} {g : Nat} {s : ByteArray} {pos p' : Nat} (h : Itr w g s pos) : Itr { w with heap := w.heap.setIfInBounds g (.stringIter s p') } g s p' := by
 refine ⟨?_⟩
 have := blk_lt h.out
 simp [Array.getElem?_setIfInBounds, this]
theorem Blk.step {w : World} {g g' : Nat} {cs : Array Value} (h : Blk w g cs) (hne : g ≠ g') (o : Obj) : Blk { w with heap := w.heap.setIfInBounds g' o } g cs := by
 refine ⟨?_⟩
 show (w.heap.setIfInBounds g' o)[g]? = _
 rw [Array.getElem?_setIfInBounds_ne (by omega)]
 exact h.out
theorem below_obj {w W : World} {g : Nat} (h : Below w.heap.size w W) (hg : w.heap.size ≤ g) (o : Obj) : Below w.heap.size w { W with heap := W.heap.setIfInBounds g o } :=
 h.trans ⟨rfl, rfl, rfl, by simp, fun k hk => Array.getElem?_setIfInBounds_ne (by omega)⟩

set_option maxHeartbeats 1000000 in
theorem table_calls (w : World) : Calls Tryz.prog 194 #[] w fun e w' => e = .returned (.agg (tC 9)) ∧ Below w.heap.size w w' := by
 have HB := Aside0.mk (Below.refl w.heap.size w)
 go_enter Tryz.func194, Tryz.ntmps194
 go_wp2_with (first | ((with_reducible refine gate_dst (N := 0) rfl ?_); refine box_event rfl (N := 0) rfl (cs := zA) (t := 171) ?hr0 ?_; (case hr0 => kernel_rfl); intro g0 hg0 w1 hb0 hw1; have B0 := Blk.mk hb0; have HB1 := Aside0.mk (below_step HB.out hw1); have G0 := Aside0.mk (show w.heap.size ≤ g0 by rw [hg0]; exact HB.out.size); clear hg0 hb0 hw1) | ((with_reducible refine gate_dst (N := 1) rfl ?_); refine box_event rfl (N := 1) rfl (cs := zA) (t := 171) ?hr1 ?_; (case hr1 => kernel_rfl); intro g1 hg1 w2 hb1 hw2; have B1 := Blk.mk hb1; have B0' := Blk.mk (blk_below B0.out hw2); have HB2 := Aside0.mk (below_step HB1.out hw2); have G1 := Aside0.mk (show w.heap.size ≤ g1 by rw [hg1]; exact HB1.out.size); have N1 := Aside0.mk (show g0 < g1 by rw [hg1]; exact blk_lt B0.out); clear hg1 hb1 hw2 B0 HB1))
 clear HB
 go_loopw [2] (fun v wr => ∃ k : Nat, k ≤ 26 ∧ v = .int .i32 (97 + (k : Int)) ∧ Blk wr g1 (tA k) ∧ Blk wr g0 zA ∧ Aside0 (Below w.heap.size w wr)) (fun v _ => 123 - (intOf v).toNat)
 case atStart => exact ⟨0, by omega, rfl, B1, B0', HB2⟩
 case round =>
  clear B1 B0' HB2
  obtain ⟨k, hk, rfl, B1, B0, HB⟩ := hrel
  by_cases hlt : k < 26
  ·have hc1 := B1.cell (tA_size k) (97 + k) (by omega)
   have hc2 := B1.cell (tA_size k) (k + 65) (by omega)
   have hf : ∀ i, wr.frozen? ⟨g1, i, none⟩ = false := blk_frozen B1.out
   go_wp2
   go_roundw
   case rel => exact ⟨k + 1, by omega, by go_num, (B1.set _ _).set _ _, (B0.far (by have := N1.out; omega) _ _).far (by have := N1.out; omega) _ _, ⟨below_set (below_set HB.out G1.out) G1.out⟩⟩
   case measure => simp [intOf]; omega
  ·have hk26 : k = 26 := by omega
   subst hk26
   go_wp2
   go_loopw [3] (fun v wr => ∃ k : Nat, k ≤ 10 ∧ v = .int .i32 (48 + (k : Int)) ∧ Blk wr g1 (tB k) ∧ Blk wr g0 zA ∧ Aside0 (Below w.heap.size w wr)) (fun v _ => 59 - (intOf v).toNat)
   case atStart => exact ⟨0, by omega, rfl, B1, B0, HB⟩
   case round =>
    clear B1 B0 HB
    obtain ⟨k, hk, rfl, B1, B0, HB⟩ := hrel
    by_cases hlt : k < 10
    ·have hc1 := B1.cell (tB_size k) (48 + k) (by omega)
     have hf := blk_frozen B1.out
     go_wp2
     go_roundw
     case rel => exact ⟨k + 1, by omega, by go_num, B1.set _ _, B0.far (by have := N1.out; omega) _ _, ⟨below_set HB.out G1.out⟩⟩
     case measure => simp [intOf]; omega
    ·have hk10 : k = 10 := by omega
     subst hk10
     have hc1 := B1.cell (tB_size 10) 95 (by omega)
     have hf := blk_frozen B1.out
     go_wp2_with fail
     have C0 : Blk (wr.setCell ⟨g1, 95, none⟩ (.int .u8 3)) g1 (tC 0) := B1.set _ _
     have D0 : Blk (wr.setCell ⟨g1, 95, none⟩ (.int .u8 3)) g0 zA := B0.far (by have := N1.out; omega) _ _
     have E0 := Aside0.mk (below_set (j := 95) (v := .int .u8 3) HB.out G1.out)
     have hs0 : wr.heap.size = (wr.setCell ⟨g1, 95, none⟩ (.int .u8 3)).heap.size := by simp
     have I0 : Itr ((wr.setCell ⟨g1, 95, none⟩ (.int .u8 3)).iter ⟨#[40, 41, 44, 61, 58, 60, 62, 43, 47]⟩ 0) wr.heap.size signs 0 := ⟨by rw [hs0]; exact World.iter_heap _ _ _⟩
     have N2 := Aside0.mk (show g1 < wr.heap.size from blk_lt B1.out)
     have N3 := Aside0.mk (show w.heap.size ≤ wr.heap.size from HB.out.size)
     have C1 := Blk.mk (blk_alloc C0.out (.stringIter ⟨#[40, 41, 44, 61, 58, 60, 62, 43, 47]⟩ 0))
     have D1 := Blk.mk (blk_alloc D0.out (.stringIter ⟨#[40, 41, 44, 61, 58, 60, 62, 43, 47]⟩ 0))
     have E1 := Aside0.mk (below_alloc E0.out (.stringIter ⟨#[40, 41, 44, 61, 58, 60, 62, 43, 47]⟩ 0))
     clear B1 B0 HB C0 D0 E0 hc1 hf hs0
     generalize hit : wr.heap.size = it at *
     go_loopg [5] 9 (fun gg v wr => ∃ k : Nat, k ≤ 9 ∧ 9 - k ≤ gg ∧ Blk wr g1 (tC k) ∧ Blk wr g0 zA ∧ Itr wr it signs k ∧ Aside0 (Below w.heap.size w wr))
     case atStart => exact ⟨0, by omega, by omega, C1, D1, I0, E1⟩
     case round =>
      clear C1 D1 I0 E1 hit
      obtain ⟨k, hk, hgg, B1, B0, I, HB⟩ := hrel
      by_cases hlt : k < 9
      ·have hz : k < signs.size := hlt
       have hlt7 := sg_lt k hlt
       have hnx := fun ty => I.next Tryz.prog ty hz (by rw [sg_eq k hz]; exact hlt7)
       simp only [sg_eq k hz] at hnx
       have HB2 := Aside0.mk (below_obj (g := it) HB.out N3.out (.stringIter signs (k + 1)))
       have B12 := B1.step (g' := it) (by have := N2.out; omega) (.stringIter signs (k + 1))
       have B02 := B0.step (g' := it) (by have := N1.out; have := N2.out; omega) (.stringIter signs (k + 1))
       have I2 := I.step (p' := k + 1)
       clear B1 B0 I HB
       generalize hW : ({ wr with heap := wr.heap.setIfInBounds it (.stringIter signs (k + 1)) } : World) = W at hnx HB2 B12 B02 I2
       clear hW
       have hc1 := B12.cell (tC_size k) (sg k) (by omega)
       have hf := blk_frozen B12.out
       go_wp2
       go_roundg (9 - (k + 1))
       case measure => omega
       case rel => exact ⟨k + 1, by omega, by omega, B12.set _ _, B02.far (by have := N1.out; omega) _ _, I2.far (by have := N2.out; omega) _ _, ⟨below_set HB2.out G1.out⟩⟩
      ·have hk9 : k = 9 := by omega
       subst hk9
       have hnx := fun ty => I.over Tryz.prog ty (by decide)
       obtain ⟨cs, hcs⟩ : ∃ cs, cs = tC 9 := ⟨_, rfl⟩
       obtain ⟨zs, hzs⟩ : ∃ zs, zs = zA := ⟨_, rfl⟩
       have hsz : cs.size = 256 := by rw [hcs]; exact tC_size 9
       have hzz : zs.size = 256 := by rw [hzs]; simp [zA]
       have hone : cs.all (·.oneCell') = true := by rw [hcs]; decide +kernel
       rw [← hcs] at B1
       rw [← hzs] at B0
       have HS := Aside0.mk hsz
       have HZ := Aside0.mk hzz
       have HO := Aside0.mk hone
       have HC := Aside0.mk hcs
       clear hsz hzz hone hcs hzs
       go_wp2_with (first | ((with_reducible refine gate_dst (N := 29) rfl ?_); refine wpList_load_row rfl 171 (.tmp 1) rfl g1 rfl 171 _ (0,0) _ B1.out Tryz.underlying171 rfl (by rw [HS.out]; kernel_rfl) ?_) | ((with_reducible refine gate_store (t := 171) (p := 0) (v := .tmp 29) rfl ?_); refine wpList_store_row rfl 171 (.tmp 0) (.tmp 29) rfl g0 cs rfl rfl 171 zs B0.out (by rw [HS.out]; kernel_rfl) (by rw [HS.out, HZ.out]) HO.out ?_))
       refine bodyPost_ret (v := .agg cs) (results_cell_row (ty := 171) (p := 0) rfl _ _ g0 171 cs (0, 0) _ rfl (setRow_heap _ g0 zs cs 171 (0, 0) B0.out) Tryz.underlying171 rfl (by rw [HS.out]; kernel_rfl)) rfl ⟨by rw [HC.out], ?_⟩
       exact HB.out.trans ⟨rfl, rfl, rfl, by simp, fun k hk => setRow_other _ _ _ _ (by have := G0.out; omega)⟩
def clsN (c : Nat) : Int :=
 if (Nat.ble 97 c && Nat.ble c 122) || (Nat.ble 65 c && Nat.ble c 90) then 1 else if Nat.ble 48 c && Nat.ble c 57 then 2 else if Nat.beq c 95 then 3
 else if Nat.beq c 40 || Nat.beq c 41 || Nat.beq c 43 || Nat.beq c 44 || Nat.beq c 47 || Nat.beq c 58 || Nat.beq c 60 || Nat.beq c 61 || Nat.beq c 62 then 4 else 0
theorem tC_eq : tC 9 = ((List.range 256).map fun c => Value.int .u8 (clsN c)).toArray := by kernel_rfl
theorem tC_at (c : Nat) (h : c < 256) : (tC 9)[c]? = some (.int .u8 (clsN c)) := by
 rw [tC_eq]; simp [h]

@[irreducible] def clsA : Array Value := tC 9
theorem clsA_eq : clsA = tC 9 := by unfold clsA; rfl
theorem clsA_size : clsA.size = 256 := by rw [clsA_eq]; exact tC_size 9
set_option maxHeartbeats 400000 in
theorem classes_calls (w : World) : Calls Tryz.prog 175 #[] w fun e w' => e = .returned (.agg clsA) ∧ Below w.heap.size w w' := by
 have HB := Aside0.mk (Below.refl w.heap.size w)
 obtain ⟨cs, hcs⟩ : ∃ cs, cs = tC 9 := ⟨_, rfl⟩
 obtain ⟨zs, hzs⟩ : ∃ zs, zs = zA := ⟨_, rfl⟩
 have HS := Aside0.mk (show cs.size = 256 by rw [hcs]; exact tC_size 9)
 have HZ := Aside0.mk (show zs.size = 256 by rw [hzs]; simp [zA])
 have HO := Aside0.mk (show cs.all (·.oneCell') = true by rw [hcs]; decide +kernel)
 have HT := fun W => table_calls W
 rw [← hcs] at HT
 rw [clsA_eq, ← hcs]
 have HZ0 := Aside0.mk hzs
 clear hcs hzs
 go_enter Tryz.func175, Tryz.ntmps175
 go_wp2_with (first | ((with_reducible refine gate_dst (N := 0) rfl ?_); refine box_event rfl (N := 0) rfl (cs := zs) (t := 171) ?hr0 ?_; (case hr0 => rw [HZ0.out]; kernel_rfl); intro g0 hg0 w1 hb0 hw1; have B0 := Blk.mk hb0; have HB1 := Aside0.mk (below_step HB.out hw1); have G0 := Aside0.mk (show w.heap.size ≤ g0 by rw [hg0]; exact HB.out.size); clear hg0 hb0 hw1) | (go_at_call 194; refine (HT _).mono ?_; rintro e w2 ⟨rfl, hb2⟩; have B1 := Blk.mk (blk_below B0.out hb2); have HB2 := Aside0.mk (below_step HB1.out hb2); clear hb2) | ((with_reducible refine gate_store (t := 171) (p := 0) (v := .tmp 1) rfl ?_); refine wpList_store_row rfl 171 (.tmp 0) (.tmp 1) rfl g0 cs rfl rfl 171 zs B1.out (by rw [HS.out]; kernel_rfl) (by rw [HS.out, HZ.out]) HO.out ?_))
 refine bodyPost_ret (v := .agg cs) (results_cell_row (ty := 171) (p := 0) rfl _ _ g0 171 cs (0, 0) _ rfl (setRow_heap _ g0 zs cs 171 (0, 0) B1.out) Tryz.underlying171 rfl (by rw [HS.out]; kernel_rfl)) rfl ⟨rfl, ?_⟩
 exact HB2.out.trans ⟨rfl, rfl, rfl, by simp, fun k hk => setRow_other _ _ _ _ (by have := G0.out; omega)⟩

theorem index_run (cs : Array Value) (c : Nat) (h : c < cs.size) (hs : cs.size = 256) (w : World) : (Instr.index 171 (.agg cs) (.int .u8 c)).run Tryz.prog w = .ok (cs[c]'h) w := by
 have e1 : (0 : Int) ≤ (c : Int) := by omega
 have e2 : (c : Int) < 256 := by omega
 have e3 : cs[c]? = some (cs[c]'h) := by simp [h]
 simp [Instr.index, asIntOf, part, e1, e2, hs, h]
 rw [if_pos (by omega), e3]
 rfl
theorem cls_run (c : Int) (h0 : 0 ≤ c) (h1 : c < 256) (w : World) : (Instr.index 171 (.agg clsA) (.int .u8 c)).run Tryz.prog w = .ok (.int .u8 (clsN c.toNat)) w := by
 obtain ⟨n, rfl⟩ := Int.eq_ofNat_of_zero_le h0
 have h := index_run clsA n (by rw [clsA_size]; omega) clsA_size w
 rw [h]
 have h2 := tC_at n (by omega)
 rw [← clsA_eq, Array.getElem?_eq_getElem (by rw [clsA_size]; omega)] at h2
 rw [Option.some.inj h2]
 simp
end Go.Proofs.YtkdbcaegeeeiaaaGreat.LexA
