/- awake of the statements' package returns true and leaves alone what was there, wherever the laid variables read as listed: the runner carries it out. -/
import Derived.Test.YtnaahepnabmibaaGreatDoorRunB
import Derived.Test.YtnaahepnabmibaaGreatDoorProg
import Derived.KernelRfl
set_option linter.unusedVariables false
namespace Go.Proofs.YtnaahepnabmibaaGreatDoor.Awk
open Go.RowKit Go.Proofs.YtnaahepnabmibaaGreatDoor.Run
theorem follows : Tryz.prog.follows .mixedOrders = true := by kernel_rfl
theorem noNum : NoNum Tryz.prog := fun f fn h => by
 have h1 : Tryz.prog.funcs.toList.all (fun fn => !(fn.name == "runtime.NumGoroutine")) = true := by kernel_rfl
 rw [List.all_eq_true] at h1
 have h2 := h1 fn (Array.mem_toList_iff.2 (Array.mem_of_getElem? h))
 simpa using h2
@[reducible] def noSyms : Syms := ⟨fun _ => .bool false, fun _ => rfl⟩
attribute [local instance] noSyms
def none1 : Oracle := ⟨fun _ _ => none, fun _ _ => none, fun _ _ _ _ => none⟩
theorem none1_ok (P : Program) : OrcOK P none1 := ⟨fun f args v h => (by cases h), fun key args v h => (by cases h), fun lo f args H v H' h => (by cases h)⟩
def fstOf : Option (Value × AH) → Value
 | some (v, _) => v
 | none => undef
def okOf : Option (Value × AH) → Bool
 | some (v, _) => plain 4 v
 | none => false
def trueOf : Option (Value × AH) → Bool
 | some (.bool b, _) => b
 | _ => false
theorem okOf_spec {r : Option (Value × AH)} (h : okOf r = true) : ∃ H, r = some (fstOf r, H) ∧ plain 4 (fstOf r) = true := by
 cases r with
 | none => cases h
 | some x => obtain ⟨v, H⟩ := x; exact ⟨H, rfl, h⟩
theorem trueOf_spec {r : Option (Value × AH)} (h : trueOf r = true) : ∃ H, r = some (.bool true, H) := by
 unfold trueOf at h
 split at h
 ·subst h; exact ⟨_, rfl⟩
 ·cases h
/-- lexer.table, run once -/
noncomputable def table : Option (Value × AH) := xcall Tryz.prog 0 100000 none1 10 0 (.fn 138) [] ⟨.leaf, 0⟩
set_option maxRecDepth 1000000 in
theorem table_ok : okOf table = true := by kernel_rfl
noncomputable def orcF : FuncId → List Value → Option Value := fun f args => bif Nat.beq f 138 then (match args with | [] => some (fstOf table) | _ => none) else none
noncomputable def orc : Oracle := ⟨orcF, fun _ _ => none, fun _ _ _ _ => none⟩
theorem orc_fn (f : FuncId) (args : List Value) (v : Value) (h : orcF f args = some v) (hs : sp 4 v = true) (w : World) : Calls Tryz.prog f (args.map (sub 4)).toArray w fun e w' => e = .returned (sub 4 v) ∧ Below w.heap.size w w' := by
 unfold orcF at h
 cases hf : Nat.beq f 138 <;> rw [hf] at h <;> simp only [cond_true, cond_false] at h
 ·cases h
 split at h
 ·obtain rfl := Option.some.inj h
  obtain rfl := Nat.eq_of_beq_eq_true hf
  obtain ⟨H, h1, h2⟩ := okOf_spec table_ok
  rw [← VR.sub_eq (VR.plain_refl (fun _ => none) h2) hs]
  exact run_closed follows noNum (none1_ok _) h1 h2 w
 ·cases h
theorem orc_ok : OrcOK Tryz.prog orc := ⟨fun f args v h _ hs w => orc_fn f args v h hs w, fun key args v h => (by cases h), fun lo f args H v H' h => (by cases h)⟩
/-- the numbers of slab.kinds, of uint64pow10 -/
def kindL : List Int := [2, 2, 1, 3, 1, 3, 3]
def kindV : List Value := kindL.map fun n => Value.int .i64 n
def powL : List Int := (List.range 20).map fun i => ((10 ^ i : Nat) : Int)
def powV : List Value := powL.map fun n => Value.int .u64 n
/-- the laid variables that are read, read as listed -/
def KindAt (w : World) : Prop := ∃ t, w.heap[0]? = some (.cells kindV.toArray t (0, 0))
def PowAt (w : World) : Prop := ∃ t, w.heap[2]? = some (.cells powV.toArray t (0, 0))
def LaidAt (w : World) : Prop := KindAt w ∧ PowAt w
theorem lt_of_at {w : World} {i : Nat} {o : Obj} (h : w.heap[i]? = some o) : i < w.heap.size := by
 obtain ⟨h1, _⟩ := Array.getElem?_eq_some_iff.1 h
 exact h1
theorem LaidAt.below {w w' : World} (h : LaidAt w) (hb : Below w.heap.size w w') : LaidAt w' := by
 obtain ⟨⟨t, h⟩, ⟨t', h'⟩⟩ := h
 exact ⟨⟨t, (hb.block 0 (lt_of_at h)).trans h⟩, ⟨t', (hb.block 2 (lt_of_at h')).trans h'⟩⟩
set_option maxRecDepth 1000000 in
theorem holds : trueOf (xcall Tryz.prog 3 100000 orc 80 3 (.fn 11) [] ⟨laidT [(0, kindV), (2, powV)], 3⟩) = true := by kernel_rfl
def gangsawlaw30_awake.f : Option Bool := some true
theorem gangsawlaw30_awake.calls (r : Bool) (w : World) {w0 : World} (hf0 : LaidAt w0) (hb0 : Below w0.heap.size w0 w) (h : gangsawlaw30_awake.f = some r) :
  Calls Tryz.prog 11 #[] w fun e w' => e = .returned (.bool r) ∧ Below w.heap.size w w' := by
 obtain rfl : true = r := Option.some.inj h
 obtain ⟨H, h1⟩ := trueOf_spec holds
 obtain ⟨⟨t, h2⟩, ⟨t', h3⟩⟩ := hf0.below hb0
 refine run_laid follows noNum orc_ok h1 rfl ?_ fun x hx => ?_
 ·exact lt_of_at h3
 ·rcases List.mem_cons.1 hx with rfl | hx
  ·exact ⟨by decide, by decide, t, h2⟩
  ·rw [List.mem_singleton] at hx
   subst hx
   exact ⟨by decide, by decide, t', h3⟩
end Go.Proofs.YtnaahepnabmibaaGreatDoor.Awk
