/- awake of the statements' package returns true and leaves alone what was there: the runner carries it out. -/
import Derived.Test.YtkdbcaegeeeiaaaGreatRunB
import Derived.Test.YtkdbcaegeeeiaaaGreatProg
import Derived.KernelRfl
set_option linter.unusedVariables false
namespace Go.Proofs.YtkdbcaegeeeiaaaGreat.Awk
open Go.RowKit Go.Proofs.YtkdbcaegeeeiaaaGreat.Run
theorem follows : Tryz.prog.follows .mixedOrders = true := by kernel_rfl
theorem noNum : NoNum Tryz.prog := fun f fn h => by
 have h1 : Tryz.prog.funcs.toList.all (fun fn => !(fn.name == "runtime.NumGoroutine")) = true := by kernel_rfl
 rw [List.all_eq_true] at h1
 have h2 := h1 fn (Array.mem_toList_iff.2 (Array.mem_of_getElem? h))
 simpa using h2
@[reducible] def noSyms : Syms := ⟨fun _ => .bool false, fun _ => rfl, 0, .cells #[] 0 (0, 0)⟩
attribute [local instance] noSyms
def none1 : Oracle := ⟨fun _ _ => none, fun _ _ => none, fun _ _ _ _ => none⟩
theorem none1_ok (P : Program) : OrcOK P none1 := ⟨fun f args v h => (by cases h), fun key args v h => (by cases h), fun lo f args H v H' h => (by cases h)⟩
def fstOf : Option (Value × AH) → Value
 | some (v, _) => v
 | none => undef
def okOf : Option (Value × AH) → Bool
 | some (v, _) => plain 4 v
 | none => false
def trueOf : Option (Value × AH) → Bool
 | some (.bool b, _) => b
 | _ => false
theorem okOf_spec {r : Option (Value × AH)} (h : okOf r = true) : ∃ H, r = some (fstOf r, H) ∧ plain 4 (fstOf r) = true := by
 cases r with
 | none => cases h
 | some x => obtain ⟨v, H⟩ := x; exact ⟨H, rfl, h⟩
theorem trueOf_spec {r : Option (Value × AH)} (h : trueOf r = true) : ∃ H, r = some (.bool true, H) := by
 unfold trueOf at h
 split at h
 ·subst h; exact ⟨_, rfl⟩
 ·cases h
/-- lexer.table, run once -/
noncomputable def table : Option (Value × AH) := xcall Tryz.prog 0 100000 none1 10 0 (.fn 194) [] ⟨.leaf, 0⟩
set_option maxRecDepth 1000000 in
theorem table_ok : okOf table = true := by kernel_rfl
noncomputable def orcF : FuncId → List Value → Option Value := fun f args => bif Nat.beq f 194 then (match args with | [] => some (fstOf table) | _ => none) else none
noncomputable def orc : Oracle := ⟨orcF, fun _ _ => none, fun _ _ _ _ => none⟩
theorem orc_fn (f : FuncId) (args : List Value) (v : Value) (h : orcF f args = some v) (hs : sp 4 v = true) (w : World) : Calls Tryz.prog f (args.map (sub 4)).toArray w fun e w' => e = .returned (sub 4 v) ∧ Below w.heap.size w w' := by
 unfold orcF at h
 cases hf : Nat.beq f 194 <;> rw [hf] at h <;> simp only [cond_true, cond_false] at h
 ·cases h
 split at h
 ·obtain rfl := Option.some.inj h
  obtain rfl := Nat.eq_of_beq_eq_true hf
  obtain ⟨H, h1, h2⟩ := okOf_spec table_ok
  rw [← VR.sub_eq (VR.plain_refl (fun _ => none) h2) hs]
  exact run_closed follows noNum (none1_ok _) h1 h2 w
 ·cases h
theorem orc_ok : OrcOK Tryz.prog orc := ⟨fun f args v h _ hs w => orc_fn f args v h hs w, fun key args v h => (by cases h), fun lo f args H v H' h => (by cases h)⟩
set_option maxRecDepth 1000000 in
theorem holds : trueOf (xcall Tryz.prog 0 100000 orc 60 0 (.fn 41) [] ⟨.leaf, 0⟩) = true := by kernel_rfl
def gangsawlaw52_awake.f : Option Bool := some true
theorem gangsawlaw52_awake.calls (r : Bool) (w : World) (h : gangsawlaw52_awake.f = some r) :
  Calls Tryz.prog 41 #[] w fun e w' => e = .returned (.bool r) ∧ Below w.heap.size w w' := by
 obtain rfl : true = r := Option.some.inj h
 obtain ⟨H, h1⟩ := trueOf_spec holds
 exact run_closed follows noNum orc_ok h1 rfl w
end Go.Proofs.YtkdbcaegeeeiaaaGreat.Awk
