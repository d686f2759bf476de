-- written by wip/printx.py, a program of this session, over the kit's print
import Derived.Test.YtkgijkfcmbpgpaaPAllx0
import Derived.Test.YtkgijkfcmbpgpaaPAllx1
import Derived.Test.YtkgijkfcmbpgpaaPAllx3
namespace Go.Proofs.Ytkgijkfcmbpgpaa.PAll
open Go.RowKit Go.Proofs.YtkgijkfcmbpgpaaW.PrintWords Go.Proofs.YtkgijkfcmbpgpaaW.PrintLast Go.Proofs.YtkgijkfcmbpgpaaW.PrintMore
attribute [local go_sem] max2_int min2_int max_two min_two max_three min_three max_four min_four   -- for this text's walks alone
set_option linter.unusedVariables false
set_option linter.unusedSimpArgs false

/-! ### legateref04_Encrypt: function 26 -/
def legateref04_Encrypt.T8 : Bool × List (List Nat × List Nat) := (true, [([], []), ([], []), ([], []), ([], []), ([2, 3], [2, 3]), ([], []), ([], []), ([5, 6], [5, 6]), ([4, 7], [4, 7]), ([0, 1, 0, 1, 2, 3, 4, 5, 6, 7, 8], [0, 1]), ([9, 8, 0, 1, 2, 3, 4, 5, 6, 7, 8], [8, 9])])
def legateref04_Encrypt.B8 : List Nat := [0, 0, 0, 0, 12, 0, 0, 96, 252, 511, 1023]
theorem legateref04_Encrypt.tab8 : rtab .any (opsOf Try.f26 8) = legateref04_Encrypt.T8 := by kernel_rfl
theorem legateref04_Encrypt.bits8 : waitsOk legateref04_Encrypt.T8.2 legateref04_Encrypt.B8 = true := by kernel_rfl
end Go.Proofs.Ytkgijkfcmbpgpaa.PAll
