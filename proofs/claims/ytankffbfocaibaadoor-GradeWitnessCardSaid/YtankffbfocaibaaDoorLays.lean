/- The shelf's numbering of Go's library over this program: which function of the shelf is which of the program's. -/
import Derived.Test.YtankffbfocaibaaDoorChecked
import Derived.Shelf.Sort.Plain
open Go Go.Shelf
namespace Go.Proofs.YtankffbfocaibaaDoor.Lays
end Go.Proofs.YtankffbfocaibaaDoor.Lays
