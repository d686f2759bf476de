/- The seat's own products and swaps, as the statements call them; the fixed examples. -/
import Derived.Test.YtkgijkfcmbpgpaaMAes2
import Derived.Test.YtkgijkfcmbpgpaaGAes
import Derived.OpenShut
namespace Go.Proofs.Ytkgijkfcmbpgpaa.Giv
open Go.RowKit Go.Proofs.YtkgijkfcmbpgpaaW.PrintWords Go.Proofs.YtkgijkfcmbpgpaaW.PrintLast Go.Proofs.YtkgijkfcmbpgpaaW.PrintMore
set_option linter.unusedVariables false
set_option linter.unusedSimpArgs false

end Go.Proofs.Ytkgijkfcmbpgpaa.Giv
