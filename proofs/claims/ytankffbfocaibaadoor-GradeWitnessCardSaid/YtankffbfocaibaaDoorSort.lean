/-
  slices.Sort at []string and at []int, in the print's own form: the row holds the same elements in order.
-/
import Derived.Test.YtankffbfocaibaaDoorLays
import Derived.Test.YtankffbfocaibaaDoorM1
import Derived.Shelf.Slices.In.SortNone
import Derived.Shelf.Slices.CompactS
set_option linter.unusedVariables false
set_option linter.unusedSimpArgs false
namespace Go.Proofs.YtankffbfocaibaaDoor.Sort
open Go.RowKit Go.Shelf _root_.Go.Sort Go.Proofs.YtankffbfocaibaaDoorW.PrintWords Go.Proofs.YtankffbfocaibaaDoorW.PrintMore

def insL {α : Type} (le : α → α → Bool) (x : α) : List α → List α
  | [] => [x]
  | y :: l => if le y x then y :: insL le x l else x :: y :: l
def isort {α : Type} (le : α → α → Bool) (l : List α) : List α := l.foldl (fun o x => insL le x o) []
def sortInt (l : List Int) : List Int := isort (fun x y => decide (x ≤ y)) l
def slices_Sort_int.f (l0 : List Int) : Option (List Int) := if l0.length < 4611686018427387904 then some (sortInt l0) else none
end Go.Proofs.YtankffbfocaibaaDoor.Sort
