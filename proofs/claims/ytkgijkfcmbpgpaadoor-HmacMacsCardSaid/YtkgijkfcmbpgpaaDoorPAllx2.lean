-- written by wip/printx.py, a program of this session, over the kit's print
import Derived.Test.YtkgijkfcmbpgpaaDoorGWorld
import Derived.Test.YtkgijkfcmbpgpaaDoorGSha
import Derived.Test.YtkgijkfcmbpgpaaDoorPAllx0
import Derived.Test.YtkgijkfcmbpgpaaDoorPAllx1
namespace Go.Proofs.YtkgijkfcmbpgpaaDoor.PAll
open Go.RowKit Go.Proofs.YtkgijkfcmbpgpaaDoorW.PrintWords Go.Proofs.YtkgijkfcmbpgpaaDoorW.PrintLast Go.Proofs.YtkgijkfcmbpgpaaDoorW.PrintMore
open Go.Proofs.YtkgijkfcmbpgpaaDoor.Giv
attribute [local go_sem] max2_int min2_int max_two min_two max_three min_three max_four min_four   -- for this text's walks alone
set_option linter.unusedVariables false
set_option linter.unusedSimpArgs false

/-! ### legatelaw02_works: function 19 -/
def legatelaw02_works.T1 : Bool × List (List Nat × List Nat) := (true, [([], []), ([0], [0]), ([1, 0], [1]), ([2, 2], [2]), ([3, 2], [2, 3]), ([4, 2], [2, 4]), ([2, 5], [2, 5]), ([6, 3], [6]), ([7, 7], [7]), ([8, 7], [7, 8]), ([9, 7], [7, 9]), ([7, 10], [7, 10]), ([11, 8], [11]), ([12, 12], [12]), ([12], [12]), ([14, 12], [12, 14]), ([13, 15, 13, 12], [12, 13, 15]), ([16, 12], [12, 16]), ([17, 12], [12, 17]), ([12, 18], [12, 18]), ([19, 16, 0, 1, 2, 3, 4, 5, 6, 7, 8, 9, 10, 11, 12, 13, 14, 15, 16, 17, 18, 19], [19])])
def legatelaw02_works.B1 : List Nat := [0, 1, 3, 7, 15, 31, 63, 127, 255, 511, 1023, 2047, 4095, 8191, 8191, 24575, 65535, 131071, 262143, 524287, 1048575]
theorem legatelaw02_works.tab1 : rtab .any (opsOf Tryd.f19 1) = legatelaw02_works.T1 := by kernel_rfl
theorem legatelaw02_works.bits1 : waitsOk legatelaw02_works.T1.2 legatelaw02_works.B1 = true := by kernel_rfl
end Go.Proofs.YtkgijkfcmbpgpaaDoor.PAll
