/- AesTimes: the product of any two bytes, and any byte swapped, is just what the document says. -/
import Derived.Test.YtkgijkfcmbpgpaaMAesT
import Derived.Test.YtkgijkfcmbpgpaaPAllx1
namespace Go.Proofs.Ytkgijkfcmbpgpaa.Pure
open Go.RowKit Go.Proofs.Ytkgijkfcmbpgpaa.PAll Go.Proofs.YtkgijkfcmbpgpaaW.PrintWords Go.Proofs.YtkgijkfcmbpgpaaW.PrintLast
open Go.Proofs.Ytkgijkfcmbpgpaa.Giv
set_option linter.unusedVariables false
set_option linter.unusedSimpArgs false

theorem times_k (a b k : Nat) (hk : 1000 ≤ k) (ha : a < 256) (hb : b < 256) : legatelaw04_AesTimes.f k (a : Int) (b : Int) = some true := by
  unfold legatelaw04_AesTimes.f
  rw [works04 k (by omega)]
  simp only [Option.bind_some, if_true]
  rw [own_times k a b (by omega) ha hb, ref_times k a b (by omega) ha hb]
  simp only [Option.bind_some, if_true]
  rw [own_swap a ha, ref_swap a ha k (by omega)]
  simp
theorem AesTimes : legatelaw04_AesTimes.Pure := by
  intro a b ha hb
  obtain ⟨a, h1, rfl⟩ := nat_of_wf ha
  obtain ⟨b, h2, rfl⟩ := nat_of_wf hb
  exact ⟨1000, times_k a b 1000 (by omega) h1 h2⟩

end Go.Proofs.Ytkgijkfcmbpgpaa.Pure
