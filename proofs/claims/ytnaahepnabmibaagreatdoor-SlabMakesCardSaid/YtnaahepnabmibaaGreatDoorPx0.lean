/- What functions of the program return: each contract says so of one function, for every input at which its pure function yields. -/
import Derived.Test.YtnaahepnabmibaaGreatDoorProg
import Derived.Below
import Derived.Deep.Draws
import Derived.Deep.AppendLies
import Derived.Maps.AppendAt
import Derived.OwnWalk
import Derived.Laws.BytesArg
import Derived.Laws.MakeOwn
import Derived.Laws.OwnMore
import Derived.Deep.OwnRows
import Derived.Tactics
import Derived.Lib.ConvBytes
import Derived.Laws.Slices
import Derived.WalkKit
import Derived.KernelRfl
import Derived.RowKit3
import Derived.Deep.LoopGhost
import Derived.Deep.QuietTactic
import Derived.BigQuiet
import Derived.WideLaws
import Derived.Deep.DeepCutAuto
import Derived.Deep.CutBlock
import Derived.Deep.RegionHeld3
import Derived.Laws.Rows
import Derived.Lib.AppendStr
import Derived.ArgAppend
import Derived.Laws.IdiomCopy
import Derived.OrdersHeld
import Derived.Laws.BitsLemmas
import Derived.RowKit
import Derived.WalkLawsBesides
import Derived.Laws.EntriesVeiled
import Derived.Test.YtnaahepnabmibaaGreatDoorM1
namespace Go.Proofs.YtnaahepnabmibaaGreatDoor.P
open Go.RowKit Go.Proofs.YtnaahepnabmibaaGreatDoorW.PrintWords Go.Proofs.YtnaahepnabmibaaGreatDoorW.PrintLast Go.Proofs.YtnaahepnabmibaaGreatDoorW.PrintMore
attribute [local go_sem] max2_int min2_int max_two min_two max_three min_three max_four min_four   -- for this text's walks alone
set_option linter.unusedVariables false
set_option linter.unusedSimpArgs false

def errW : Option Int → Value
 | none => .nilIface
 | some c => .iface 0 (.int .i64 c)
theorem errW_none : errW none = .nilIface := rfl
theorem errW_some (c : Int) : errW (some c) = .iface 0 (.int .i64 c) := rfl

theorem info32 : (Tryz.prog.info? 32).map (fun i => (i.zero, i.size, i.bytes)) = some (some (.agg #[(.int .i64 0), (.int .i64 0), (.int .i64 0), (.int .i64 0), (.int .i64 0), (.int .i64 0)]), 6, 48) := by kernel_rfl
theorem info35 : (Tryz.prog.info? 35).map (fun i => (i.zero, i.size, i.bytes)) = some (some (.agg #[(.string ⟨#[]⟩), (.string ⟨#[]⟩), (.int .i64 0), (.int .i64 0), (.int .i64 0), (.int .i64 0), (.int .i64 0), (.int .i64 0), (.int .i64 0), (.int .i64 0), (.slice none 0 0), (.slice none 0 0)]), 12, 144) := by kernel_rfl
-- the values' own types
structure S30 where
 f0 : Int
 f1 : Int
 f2 : Int
def z30 : S30 := ⟨(0 : Int), (0 : Int), (0 : Int)⟩
def k30 : Kd S30 := Kd.iso (Kd.pair (Kd.int .i64) (Kd.pair (Kd.int .i64) (Kd.int .i64))) (fun x : S30 => (x.f0, x.f1, x.f2))
theorem k30_open {w : World} {x : S30} {cs : List Value} (h : k30.K w x cs) : cs = [.int .i64 x.f0, .int .i64 x.f1, .int .i64 x.f2] := by
 obtain ⟨_, _, rfl, rfl, ⟨_, _, rfl, rfl, rfl⟩⟩ := h
 exact rfl
theorem k30_mkM (w : World) (base : Nat) (ok : Nat → Prop) (x : S30)  : k30.M w base ok x [.int .i64 x.f0, .int .i64 x.f1, .int .i64 x.f2] := ⟨[.int .i64 x.f0], [.int .i64 x.f1, .int .i64 x.f2], rfl, rfl, ⟨[.int .i64 x.f1], [.int .i64 x.f2], rfl, rfl, rfl⟩⟩
structure S32 where
 f0 : S30
 f1 : S30
def z32 : S32 := ⟨z30, z30⟩
def k32 : Kd S32 := Kd.iso (Kd.pair k30 k30) (fun x : S32 => (x.f0, x.f1))
theorem k32_open {w : World} {x : S32} {cs : List Value} (h : k32.K w x cs) : cs = [.int .i64 x.f0.f0, .int .i64 x.f0.f1, .int .i64 x.f0.f2, .int .i64 x.f1.f0, .int .i64 x.f1.f1, .int .i64 x.f1.f2] := by
 obtain ⟨_, _, rfl, s0, s3⟩ := h
 obtain rfl := k30_open s0
 obtain rfl := k30_open s3
 exact rfl
theorem k32_mkM (w : World) (base : Nat) (ok : Nat → Prop) (x : S32)  : k32.M w base ok x [.int .i64 x.f0.f0, .int .i64 x.f0.f1, .int .i64 x.f0.f2, .int .i64 x.f1.f0, .int .i64 x.f1.f1, .int .i64 x.f1.f2] := ⟨[.int .i64 x.f0.f0, .int .i64 x.f0.f1, .int .i64 x.f0.f2], [.int .i64 x.f1.f0, .int .i64 x.f1.f1, .int .i64 x.f1.f2], rfl, (k30_mkM w base ok x.f0 ), (k30_mkM w base ok x.f1 )⟩
def rd_T32 (xs : List S32) (i : Int) : S32 := xs.getD i.toNat z32
theorem at_T32 {w : World} {A : Option Addr} {n : Nat} {xs : List S32} (h : Kd.C k32 w A n xs) (i : Int) (h0 : 0 ≤ i) (h1 : i < n) : ∃ ad , A = some ad ∧ w.cell? (ad.add (i.toNat * 6)) = some (.int .i64 (rd_T32 xs i).f0.f0) ∧ w.cell? ⟨(ad.add (i.toNat * 6)).block, (ad.add (i.toNat * 6)).off + 1, none⟩ = some (.int .i64 (rd_T32 xs i).f0.f1) ∧ w.cell? ⟨(ad.add (i.toNat * 6)).block, (ad.add (i.toNat * 6)).off + 2, none⟩ = some (.int .i64 (rd_T32 xs i).f0.f2) ∧ w.cell? ⟨(ad.add (i.toNat * 6)).block, (ad.add (i.toNat * 6)).off + 3, none⟩ = some (.int .i64 (rd_T32 xs i).f1.f0) ∧ w.cell? ⟨(ad.add (i.toNat * 6)).block, (ad.add (i.toNat * 6)).off + 4, none⟩ = some (.int .i64 (rd_T32 xs i).f1.f1) ∧ w.cell? ⟨(ad.add (i.toNat * 6)).block, (ad.add (i.toNat * 6)).off + 5, none⟩ = some (.int .i64 (rd_T32 xs i).f1.f2) := by
 obtain ⟨ad, c, e, _, hK, hc0⟩ := Kd.C_get h z32 i h0 h1
 have hc : ∀ j u, c[j]? = some u → w.cell? (ad.add (i.toNat * 6 + j)) = some u := hc0
 obtain rfl := k32_open hK
 exact ⟨ad, e, hc 0 _ rfl, by rw [← add_field _ _ 1 (by omega)]; exact hc 1 _ rfl, by rw [← add_field _ _ 2 (by omega)]; exact hc 2 _ rfl, by rw [← add_field _ _ 3 (by omega)]; exact hc 3 _ rfl, by rw [← add_field _ _ 4 (by omega)]; exact hc 4 _ rfl, by rw [← add_field _ _ 5 (by omega)]; exact hc 5 _ rfl⟩

structure S35 where
 f0 : ByteArray
 f1 : ByteArray
 f2 : Int
 f3 : S32
 f4 : Int
 f5 : (List Int)
 f6 : (List Int)
def z35 : S35 := ⟨(⟨#[]⟩ : ByteArray), (⟨#[]⟩ : ByteArray), (0 : Int), z32, (0 : Int), ([] : List Int), ([] : List Int)⟩
def k35 : Kd S35 := Kd.iso (Kd.pair Kd.string (Kd.pair Kd.string (Kd.pair (Kd.int .i64) (Kd.pair k32 (Kd.pair (Kd.int .i64) (Kd.pair (Kd.slice 3 (Kd.int .i64)) (Kd.slice 3 (Kd.int .i64)))))))) (fun x : S35 => (x.f0, x.f1, x.f2, x.f3, x.f4, x.f5, x.f6))
theorem k35_open {w : World} {x : S35} {cs : List Value} (h : k35.K w x cs) : ∃ A10 c10 A11 c11, cs = [.string x.f0, .string x.f1, .int .i64 x.f2, .int .i64 x.f3.f0.f0, .int .i64 x.f3.f0.f1, .int .i64 x.f3.f0.f2, .int .i64 x.f3.f1.f0, .int .i64 x.f3.f1.f1, .int .i64 x.f3.f1.f2, .int .i64 x.f4, .slice A10 x.f5.length c10, .slice A11 x.f6.length c11] ∧ x.f5.length ≤ c10 ∧ (Kd.int .i64).C w A10 x.f5.length x.f5 ∧ x.f6.length ≤ c11 ∧ (Kd.int .i64).C w A11 x.f6.length x.f6 := by
 obtain ⟨_, _, rfl, rfl, ⟨_, _, rfl, rfl, ⟨_, _, rfl, rfl, ⟨_, _, rfl, s3, ⟨_, _, rfl, rfl, ⟨_, _, rfl, ⟨A10, c10, rfl, l10, g10⟩, ⟨A11, c11, rfl, l11, g11⟩⟩⟩⟩⟩⟩⟩ := h
 obtain rfl := k32_open s3
 exact ⟨A10, c10, A11, c11, rfl, l10, g10, l11, g11⟩
theorem k35_mkM (w : World) (base : Nat) (ok : Nat → Prop) (x : S35) {v10 : Value} (g10 : (Kd.int .i64).R 3 w base ok v10 x.f5) {v11 : Value} (g11 : (Kd.int .i64).R 3 w base ok v11 x.f6) : k35.M w base ok x [.string x.f0, .string x.f1, .int .i64 x.f2, .int .i64 x.f3.f0.f0, .int .i64 x.f3.f0.f1, .int .i64 x.f3.f0.f2, .int .i64 x.f3.f1.f0, .int .i64 x.f3.f1.f1, .int .i64 x.f3.f1.f2, .int .i64 x.f4, v10, v11] := ⟨[.string x.f0], [.string x.f1, .int .i64 x.f2, .int .i64 x.f3.f0.f0, .int .i64 x.f3.f0.f1, .int .i64 x.f3.f0.f2, .int .i64 x.f3.f1.f0, .int .i64 x.f3.f1.f1, .int .i64 x.f3.f1.f2, .int .i64 x.f4, v10, v11], rfl, rfl, ⟨[.string x.f1], [.int .i64 x.f2, .int .i64 x.f3.f0.f0, .int .i64 x.f3.f0.f1, .int .i64 x.f3.f0.f2, .int .i64 x.f3.f1.f0, .int .i64 x.f3.f1.f1, .int .i64 x.f3.f1.f2, .int .i64 x.f4, v10, v11], rfl, rfl, ⟨[.int .i64 x.f2], [.int .i64 x.f3.f0.f0, .int .i64 x.f3.f0.f1, .int .i64 x.f3.f0.f2, .int .i64 x.f3.f1.f0, .int .i64 x.f3.f1.f1, .int .i64 x.f3.f1.f2, .int .i64 x.f4, v10, v11], rfl, rfl, ⟨[.int .i64 x.f3.f0.f0, .int .i64 x.f3.f0.f1, .int .i64 x.f3.f0.f2, .int .i64 x.f3.f1.f0, .int .i64 x.f3.f1.f1, .int .i64 x.f3.f1.f2], [.int .i64 x.f4, v10, v11], rfl, (k32_mkM w base ok x.f3 ), ⟨[.int .i64 x.f4], [v10, v11], rfl, rfl, ⟨[v10], [v11], rfl, ⟨v10, rfl, g10⟩, ⟨v11, rfl, g11⟩⟩⟩⟩⟩⟩⟩
def rd_T35 (xs : List S35) (i : Int) : S35 := xs.getD i.toNat z35
theorem at_T35 {w : World} {A : Option Addr} {n : Nat} {xs : List S35} (h : Kd.C k35 w A n xs) (i : Int) (h0 : 0 ≤ i) (h1 : i < n) : ∃ ad A10 c10 A11 c11, A = some ad ∧ w.cell? (ad.add (i.toNat * 12)) = some (.string (rd_T35 xs i).f0) ∧ w.cell? ⟨(ad.add (i.toNat * 12)).block, (ad.add (i.toNat * 12)).off + 1, none⟩ = some (.string (rd_T35 xs i).f1) ∧ w.cell? ⟨(ad.add (i.toNat * 12)).block, (ad.add (i.toNat * 12)).off + 2, none⟩ = some (.int .i64 (rd_T35 xs i).f2) ∧ w.cell? ⟨(ad.add (i.toNat * 12)).block, (ad.add (i.toNat * 12)).off + 3, none⟩ = some (.int .i64 (rd_T35 xs i).f3.f0.f0) ∧ w.cell? ⟨(ad.add (i.toNat * 12)).block, (ad.add (i.toNat * 12)).off + 4, none⟩ = some (.int .i64 (rd_T35 xs i).f3.f0.f1) ∧ w.cell? ⟨(ad.add (i.toNat * 12)).block, (ad.add (i.toNat * 12)).off + 5, none⟩ = some (.int .i64 (rd_T35 xs i).f3.f0.f2) ∧ w.cell? ⟨(ad.add (i.toNat * 12)).block, (ad.add (i.toNat * 12)).off + 6, none⟩ = some (.int .i64 (rd_T35 xs i).f3.f1.f0) ∧ w.cell? ⟨(ad.add (i.toNat * 12)).block, (ad.add (i.toNat * 12)).off + 7, none⟩ = some (.int .i64 (rd_T35 xs i).f3.f1.f1) ∧ w.cell? ⟨(ad.add (i.toNat * 12)).block, (ad.add (i.toNat * 12)).off + 8, none⟩ = some (.int .i64 (rd_T35 xs i).f3.f1.f2) ∧ w.cell? ⟨(ad.add (i.toNat * 12)).block, (ad.add (i.toNat * 12)).off + 9, none⟩ = some (.int .i64 (rd_T35 xs i).f4) ∧ w.cell? ⟨(ad.add (i.toNat * 12)).block, (ad.add (i.toNat * 12)).off + 10, none⟩ = some (.slice A10 (rd_T35 xs i).f5.length c10) ∧ w.cell? ⟨(ad.add (i.toNat * 12)).block, (ad.add (i.toNat * 12)).off + 11, none⟩ = some (.slice A11 (rd_T35 xs i).f6.length c11) ∧ (rd_T35 xs i).f5.length ≤ c10 ∧ (Kd.int .i64).C w A10 (rd_T35 xs i).f5.length (rd_T35 xs i).f5 ∧ (rd_T35 xs i).f6.length ≤ c11 ∧ (Kd.int .i64).C w A11 (rd_T35 xs i).f6.length (rd_T35 xs i).f6 := by
 obtain ⟨ad, c, e, _, hK, hc0⟩ := Kd.C_get h z35 i h0 h1
 have hc : ∀ j u, c[j]? = some u → w.cell? (ad.add (i.toNat * 12 + j)) = some u := hc0
 obtain ⟨A10, c10, A11, c11, rfl, l10, g10, l11, g11⟩ := k35_open hK
 exact ⟨ad, A10, c10, A11, c11, e, hc 0 _ rfl, by rw [← add_field _ _ 1 (by omega)]; exact hc 1 _ rfl, by rw [← add_field _ _ 2 (by omega)]; exact hc 2 _ rfl, by rw [← add_field _ _ 3 (by omega)]; exact hc 3 _ rfl, by rw [← add_field _ _ 4 (by omega)]; exact hc 4 _ rfl, by rw [← add_field _ _ 5 (by omega)]; exact hc 5 _ rfl, by rw [← add_field _ _ 6 (by omega)]; exact hc 6 _ rfl, by rw [← add_field _ _ 7 (by omega)]; exact hc 7 _ rfl, by rw [← add_field _ _ 8 (by omega)]; exact hc 8 _ rfl, by rw [← add_field _ _ 9 (by omega)]; exact hc 9 _ rfl, by rw [← add_field _ _ 10 (by omega)]; exact hc 10 _ rfl, by rw [← add_field _ _ 11 (by omega)]; exact hc 11 _ rfl, l10, g10, l11, g11⟩

structure S45 where
 f0 : ByteArray
 f1 : S32
def k45 : Kd S45 := Kd.iso (Kd.pair Kd.string k32) (fun x : S45 => (x.f0, x.f1))
theorem k45_open {w : World} {x : S45} {cs : List Value} (h : k45.K w x cs) : cs = [.string x.f0, .int .i64 x.f1.f0.f0, .int .i64 x.f1.f0.f1, .int .i64 x.f1.f0.f2, .int .i64 x.f1.f1.f0, .int .i64 x.f1.f1.f1, .int .i64 x.f1.f1.f2] := by
 obtain ⟨_, _, rfl, rfl, s1⟩ := h
 obtain rfl := k32_open s1
 exact rfl
structure S47 where
 f0 : Int
 f1 : Int
 f2 : Int
 f3 : Int
def k47 : Kd S47 := Kd.iso (Kd.pair (Kd.int .i64) (Kd.pair (Kd.int .i64) (Kd.pair (Kd.int .i64) (Kd.int .i64)))) (fun x : S47 => (x.f0, x.f1, x.f2, x.f3))
theorem k47_open {w : World} {x : S47} {cs : List Value} (h : k47.K w x cs) : cs = [.int .i64 x.f0, .int .i64 x.f1, .int .i64 x.f2, .int .i64 x.f3] := by
 obtain ⟨_, _, rfl, rfl, ⟨_, _, rfl, rfl, ⟨_, _, rfl, rfl, rfl⟩⟩⟩ := h
 exact rfl
theorem zN : type_of% @blk_drewN := @blk_drewN
theorem zD : type_of% @blk_drew := @blk_drew
theorem zA : type_of% @blk_alloc := @blk_alloc
theorem yA : type_of% @below_alloc := @below_alloc
theorem yN : type_of% @pw_below_drewN := @pw_below_drewN
theorem yD : type_of% @below_drew1 := @below_drew1
theorem yS : type_of% @below_set := @below_set
theorem aK : type_of% @Aside0.mk := @Aside0.mk
theorem sA : type_of% @List.setIfInBounds_toArray := @List.setIfInBounds_toArray
theorem sZ : type_of% @List.set_cons_zero := @List.set_cons_zero
theorem sS : type_of% @List.set_cons_succ := @List.set_cons_succ
theorem zC : type_of% @blk_cell := @blk_cell
theorem zF : type_of% @blk_frozen := @blk_frozen
theorem zB : type_of% @blk_below := @blk_below
theorem yZ : type_of% @below_size := @below_size
theorem yT : type_of% @below_step := @below_step
theorem zV {g : Nat} {w W W' : World} (hb : Below W.heap.size W W') (hg : g = W.heap.size) (h : Below w.heap.size w W) : Aside0 (Below w.heap.size w W') ∧ Aside0 (w.heap.size ≤ g) := ⟨⟨below_step h hb⟩, ⟨by rw [hg]; exact below_size h⟩⟩
theorem zI {w : World} {g : Nat} {cs : Array Value} {t : TypeId} (h : Aside0 (w.heap[g]? = some (.cells cs t (0, 0)))) (j : Nat) {v : Value} (hv : cs[j]? = some v) : w.cell? ⟨g, j, none⟩ = some v := (blk_cell h.out j).trans hv
theorem zG {w W W' : World} {g : Nat} {o : Obj} (h : Aside0 (w.heap[g]? = some o)) (hb : Below W.heap.size W W') (hp : w.heap[g]? = some o → W.heap[g]? = some o) : Aside0 (W'.heap[g]? = some o) := ⟨blk_below (hp h.out) hb⟩
end Go.Proofs.YtnaahepnabmibaaGreatDoor.P
