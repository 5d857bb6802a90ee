/- The shelf's numbering of Go's library over this program: which function of the shelf is which of the program's. -/
import Derived.Test.YtpfggghpkdnppaaChecked
import Derived.Shelf.Sort.Plain
open Go Go.Shelf
namespace Go.Proofs.Ytpfggghpkdnppaa.Lays
end Go.Proofs.Ytpfggghpkdnppaa.Lays
