/- The fixed examples of the sums' statements: true, by the kernel's own reckoning. -/
import Derived.Test.YtkgijkfcmbpgpaaDoorPAllx2
import Derived.KernelRfl
namespace Go.Proofs.YtkgijkfcmbpgpaaDoor.Giv
open Go Go.Proofs.YtkgijkfcmbpgpaaDoor
theorem works02 : PAll.legatelaw02_works.f 1000 = some true := by kernel_rfl
end Go.Proofs.YtkgijkfcmbpgpaaDoor.Giv
