-- written by wip/printx.py, a program of this session, over the kit's print
import Derived.Test.YtkgijkfcmbpgpaaProg
import Derived.Below
import Derived.Deep.Draws
import Derived.Deep.AppendLies
import Derived.Maps.AppendAt
import Derived.OwnWalk
import Derived.Laws.BytesArg
import Derived.Laws.MakeOwn
import Derived.Laws.OwnMore
import Derived.Deep.OwnRows
import Derived.Tactics
import Derived.Lib.ConvBytes
import Derived.Laws.Slices
import Derived.WalkKit
import Derived.KernelRfl
import Derived.RowKit3
import Derived.Deep.LoopGhost
import Derived.Deep.QuietTactic
import Derived.BigQuiet
import Derived.WideLaws
import Derived.Deep.DeepCutAuto
import Derived.Deep.CutBlock
import Derived.Deep.RegionHeld3
import Derived.Laws.Rows
import Derived.Lib.AppendStr
import Derived.ArgAppend
import Derived.Laws.IdiomCopy
import Derived.OrdersHeld
import Derived.Laws.BitsLemmas
import Derived.RowKit
import Derived.Test.YtkgijkfcmbpgpaaWWords
import Derived.Test.YtkgijkfcmbpgpaaWLast
import Derived.Test.YtkgijkfcmbpgpaaWTab
import Derived.Test.YtkgijkfcmbpgpaaWFour
import Derived.Test.YtkgijkfcmbpgpaaWQPut
import Derived.Test.YtkgijkfcmbpgpaaWApart
import Derived.Test.YtkgijkfcmbpgpaaWArr
import Derived.Test.YtkgijkfcmbpgpaaWZeros
import Derived.Test.YtkgijkfcmbpgpaaWFoot
import Derived.Test.YtkgijkfcmbpgpaaWKept
import Derived.Test.YtkgijkfcmbpgpaaWShare
import Derived.Test.YtkgijkfcmbpgpaaWN
import Derived.Test.YtkgijkfcmbpgpaaWFootNe
import Derived.Test.YtkgijkfcmbpgpaaWAt
import Derived.Test.YtkgijkfcmbpgpaaWEqStruct
import Derived.Test.YtkgijkfcmbpgpaaWRepsOne
import Derived.Test.YtkgijkfcmbpgpaaWInv
import Derived.Test.YtkgijkfcmbpgpaaWInvWords
import Derived.Test.YtkgijkfcmbpgpaaWGuard
import Derived.Test.YtkgijkfcmbpgpaaWNEv
import Derived.Test.YtkgijkfcmbpgpaaWMore
namespace Go.Proofs.Ytkgijkfcmbpgpaa.PAll
open Go.RowKit Go.Proofs.YtkgijkfcmbpgpaaW.PrintWords Go.Proofs.YtkgijkfcmbpgpaaW.PrintLast Go.Proofs.YtkgijkfcmbpgpaaW.PrintMore
attribute [local go_sem] max2_int min2_int max_two min_two max_three min_three max_four min_four   -- for this text's walks alone
set_option linter.unusedVariables false
set_option linter.unusedSimpArgs false



def errW : Option Int → Value
  | none => .nilIface
  | some c => .iface 0 (.int .i64 c)
theorem errW_none : errW none = .nilIface := rfl
theorem errW_some (c : Int) : errW (some c) = .iface 0 (.int .i64 c) := rfl

theorem info5 : (Try.prog.info? 5).map (fun i => (i.zero, i.size, i.bytes)) = some (some (.int .u8 0), 1, 1) := by kernel_rfl
-- the values' own types
/-! #### struct type 44, nested in itself -/
structure S44 where
  f0 : Bool
  f1 : Int
  f2 : ByteArray
  f3 : (List S44)
end Go.Proofs.Ytkgijkfcmbpgpaa.PAll
