/- ShaSums: the sum of any text is just what the document says. -/
import Derived.Test.YtkgijkfcmbpgpaaDoorMRef5
namespace Go.Proofs.YtkgijkfcmbpgpaaDoor.Pure
open Go.RowKit Go.Proofs.YtkgijkfcmbpgpaaDoor.PAll Go.Proofs.YtkgijkfcmbpgpaaDoorW.PrintWords Go.Proofs.YtkgijkfcmbpgpaaDoorW.PrintLast
open Go.Proofs.YtkgijkfcmbpgpaaDoor.Giv
set_option linter.unusedVariables false
set_option linter.unusedSimpArgs false

theorem sums_k (s : ByteArray) (k : Nat) (hk : 6000 ≤ k) : legatelaw02_ShaSums.f k s = some true := by
  unfold legatelaw02_ShaSums.f
  rw [works02_ge _ (by omega)]
  simp only [Option.bind_some, if_true]
  by_cases h : (s.size : Int) > 600
  · rw [if_pos h]
  · rw [if_neg h, sum_some s (by omega)]
    simp only [Option.bind_some]
    unfold legateref02_Sum.f
    rw [keys_ref _ (by omega)]
    simp only [Option.bind_some]
    rw [start_ref _ (by omega)]
    simp only [Option.bind_some]
    rw [ref_sumBy s (by omega) _ (by omega), sum_some s (by omega)]
    simp only [Option.bind_some]
    simp
theorem ShaSums : legatelaw02_ShaSums.Pure := by
  intro s _
  exact ⟨6000, sums_k s 6000 (by omega)⟩

end Go.Proofs.YtkgijkfcmbpgpaaDoor.Pure
