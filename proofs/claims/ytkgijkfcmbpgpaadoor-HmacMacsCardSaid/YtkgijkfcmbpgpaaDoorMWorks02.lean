/- The fixed examples of the sums' statements: true, by the kernel's own reckoning. -/
import Derived.Test.YtkgijkfcmbpgpaaDoorPAllx2
import Derived.KernelRfl
namespace Go.Proofs.YtkgijkfcmbpgpaaDoor.Giv
open Go Go.Proofs.YtkgijkfcmbpgpaaDoor
end Go.Proofs.YtkgijkfcmbpgpaaDoor.Giv
