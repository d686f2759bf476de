/- Bytes as natural numbers: sums, products, the reference's products. -/
import Derived.Test.YtkgijkfcmbpgpaaMField
import Derived.Test.YtkgijkfcmbpgpaaGAes5
import Derived.Test.YtkgijkfcmbpgpaaPAllx1
import Derived.Laws.BitsAllLaws
import Derived.KernelRfl
namespace Go.Proofs.Ytkgijkfcmbpgpaa.Giv
open Go.RowKit Go.Proofs.YtkgijkfcmbpgpaaW.PrintWords Go.Proofs.YtkgijkfcmbpgpaaW.PrintLast Go.Proofs.YtkgijkfcmbpgpaaW.PrintMore Go.Proofs.Ytkgijkfcmbpgpaa.PAll
set_option linter.unusedVariables false
set_option linter.unusedSimpArgs false

theorem nat_of_u8 {x : Int} (h : U8 x) : ∃ n : Nat, n < 256 ∧ x = (n : Int) := ⟨x.toNat, by unfold U8 at h; omega, by unfold U8 at h; omega⟩
theorem xor_lt {a b : Nat} (ha : a < 256) (hb : b < 256) : a ^^^ b < 256 := Nat.xor_lt_two_pow (n := 8) ha hb
end Go.Proofs.Ytkgijkfcmbpgpaa.Giv
