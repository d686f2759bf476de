-- written by wip/printx.py, a program of this session, over the kit's print
import Derived.Test.YtkgijkfcmbpgpaaGAes
import Derived.Test.YtkgijkfcmbpgpaaPAllx0
import Derived.Test.YtkgijkfcmbpgpaaPAllx1
namespace Go.Proofs.Ytkgijkfcmbpgpaa.PAll
open Go.RowKit Go.Proofs.YtkgijkfcmbpgpaaW.PrintWords Go.Proofs.YtkgijkfcmbpgpaaW.PrintLast Go.Proofs.YtkgijkfcmbpgpaaW.PrintMore
open Go.Proofs.Ytkgijkfcmbpgpaa.Giv
attribute [local go_sem] max2_int min2_int max_two min_two max_three min_three max_four min_four   -- for this text's walks alone
set_option linter.unusedVariables false
set_option linter.unusedSimpArgs false

/-! ### legatelaw04_AesField: function 4 -/
/-! ### legateref04_Table: function 24 -/
end Go.Proofs.Ytkgijkfcmbpgpaa.PAll
