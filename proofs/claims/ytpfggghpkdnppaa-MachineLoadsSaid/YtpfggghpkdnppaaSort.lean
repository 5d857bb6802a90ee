/-
  slices.Sort at []string and at []int, in the print's own form: the row holds the same elements in order.
-/
import Derived.Test.YtpfggghpkdnppaaLays
import Derived.Test.YtpfggghpkdnppaaM1
import Derived.Shelf.Slices.In.SortNone
import Derived.Shelf.Slices.CompactS
set_option linter.unusedVariables false
set_option linter.unusedSimpArgs false
namespace Go.Proofs.Ytpfggghpkdnppaa.Sort
open Go.RowKit Go.Shelf _root_.Go.Sort Go.Proofs.YtpfggghpkdnppaaW.PrintWords Go.Proofs.YtpfggghpkdnppaaW.PrintMore

def insL {α : Type} (le : α → α → Bool) (x : α) : List α → List α
  | [] => [x]
  | y :: l => if le y x then y :: insL le x l else x :: y :: l
def isort {α : Type} (le : α → α → Bool) (l : List α) : List α := l.foldl (fun o x => insL le x o) []
def sortStr (l : List ByteArray) : List ByteArray := (isort (fun x y => decide (x ≤ y)) (l.map (·.toList))).map fun b => ⟨b.toArray⟩
def slices_Sort_string.f (l0 : List ByteArray) : Option (List ByteArray) := if l0.length < 4611686018427387904 then some (sortStr l0) else none
def compactStr (l : List ByteArray) : List ByteArray := (Lib.compact (l.map (·.toList))).map fun b => ⟨b.toArray⟩
def slices_Compact_string.f (l0 : List ByteArray) : Option (List ByteArray) := some (compactStr l0)
end Go.Proofs.Ytpfggghpkdnppaa.Sort
