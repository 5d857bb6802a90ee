/-
  Maps that a call makes for itself, as pure data: keys, elements and when each entry was made; what a lookup and a store do with the map's block.
-/
import Derived.Test.YtankffbfocaibaaDoorM1
import Derived.OwnWalk
import Derived.Carry
set_option linter.unusedVariables false
set_option linter.unusedSimpArgs false
namespace Go.Proofs.YtankffbfocaibaaDoor.Sm
open Go.RowKit Go.Proofs.YtankffbfocaibaaDoorW.PrintWords

instance : LawfulBEq ByteArray where
  eq_of_beq {a b} h := by
    cases a with | mk a => cases b with | mk b =>
    have h' : (BEq.beq a b) = true := h
    simp at h'; simp [h']
  rfl {a} := by
    cases a with | mk a =>
    show (BEq.beq a a) = true
    simp
structure SM (κ β : Type) where
  es : List (κ × β × Nat)
  clock : Nat
namespace SM
variable {κ β : Type}
def new : SM κ β := ⟨[], 0⟩
def getL [BEq κ] : List (κ × β × Nat) → κ → Option β
  | [], _ => none
  | e :: l, k => if (k == e.1) = true then some e.2.1 else getL l k
def putL [BEq κ] : List (κ × β × Nat) → κ → β → Nat → List (κ × β × Nat)
  | [], k, v, c => [(k, v, c)]
  | e :: l, k, v, c => if (k == e.1) = true then (k, v, e.2.2) :: l else e :: putL l k v c
def get [BEq κ] (m : SM κ β) (k : κ) : Option β := getL m.es k
/-- What a lookup yields. -/
def at_ [BEq κ] (m : SM κ β) (k : κ) (z : β) : β := (m.get k).getD z
def put [BEq κ] (m : SM κ β) (k : κ) (v : β) : SM κ β := ⟨putL m.es k v m.clock, if (m.get k).isSome then m.clock else m.clock + 1⟩
/-- What is asked of the keys. -/
structure Key [BEq κ] (P : Program) (kt : TypeId) (ke : κ → Value) : Prop where
  desc : ∃ d, P.underlying kt = some d ∧ (∀ a b, Instr.sameNow d (ke a) (ke b) = some (a == b)) ∧ ∀ (b : Bool) (n : Nat) (a : κ) (w : World), (Instr.checkKey b (n + 1) kt (ke a)).run P w = .ok () w
  bits : ∀ a b, (a == b) = true → ke a = ke b ∧ Instr.sameBits 10000 (ke a) (ke b) = true
end SM
namespace Kd
variable {κ β α : Type} {ke : κ → Value} {ve : β → Value} {m : SM κ β} {d : Kd α} {e base g : Nat} {ok : Nat → Prop} {w : World} {v : Value} {xs : List α}
end Kd
namespace Kd
end Kd
end Go.Proofs.YtankffbfocaibaaDoor.Sm
