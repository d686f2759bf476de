/- The fixed examples of the statements on sums with keys: true, by the kernel's own reckoning. -/
import Derived.Test.YtkgijkfcmbpgpaaDoorPAllx9
import Derived.KernelRfl
namespace Go.Proofs.YtkgijkfcmbpgpaaDoor.Giv
open Go Go.RowKit Go.Proofs.YtkgijkfcmbpgpaaDoor Go.Proofs.YtkgijkfcmbpgpaaDoorW.PrintWords
theorem works03_0 : PAll.legatelaw03_works.f 100 = some true := by kernel_rfl
theorem works03 (k : Nat) (hk : 100 ≤ k) : PAll.legatelaw03_works.f k = some true := by
  obtain ⟨n, rfl⟩ : ∃ n, k = 100 + n := ⟨k - 100, by omega⟩
  clear hk
  induction n with
  | zero => exact works03_0
  | succ n ih => exact PAll.legatelaw03_works.mono _ _ ih
end Go.Proofs.YtkgijkfcmbpgpaaDoor.Giv
