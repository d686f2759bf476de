/- The reference's first state and its sums, with what it reckoned. -/
import Derived.Test.YtkgijkfcmbpgpaaDoorMRef4
import Derived.Test.YtkgijkfcmbpgpaaDoorMRoots
import Derived.Test.YtkgijkfcmbpgpaaDoorMWorks02
namespace Go.Proofs.YtkgijkfcmbpgpaaDoor.Giv
open Go.RowKit Go.Proofs.YtkgijkfcmbpgpaaDoorW.PrintWords Go.Proofs.YtkgijkfcmbpgpaaDoorW.PrintLast Go.Proofs.YtkgijkfcmbpgpaaDoorW.PrintMore Go.Proofs.YtkgijkfcmbpgpaaDoor.PSub Go.Proofs.YtkgijkfcmbpgpaaDoor.PAll
set_option linter.unusedVariables false
set_option linter.unusedSimpArgs false

theorem start_l0 : ∀ (n i k : Nat), i + n = 8 → 5000 + n < k → legateref02_Start.l0 k (firstL.take i) (i : Int) = some (stB firstL) := by
  intro n
  induction n with
  | zero =>
    intro i k hi hk
    obtain ⟨k, rfl⟩ : ∃ j, k = j + 1 := ⟨k - 1, by omega⟩
    obtain rfl : i = 8 := by omega
    rw [legateref02_Start.l0, if_neg (by omega)]
    have e : firstL.take 8 = firstL := rfl
    rw [e, ref_bytes firstL rfl firstL_inR.2 k (by omega)]
    rfl
  | succ n ih =>
    intro i k hi hk
    obtain ⟨k, rfl⟩ : ∃ j, k = j + 1 := ⟨k - 1, by omega⟩
    have e : wrap64 ((i : Int) + 1) = ((i + 1 : Nat) : Int) := by unfold wrap64; omega
    have e1 := prim_ge i (by omega) (k - 5000)
    rw [show 5000 + (k - 5000) = k from by omega] at e1
    have e2 := square_ge i (by omega) (k - 200)
    rw [show 200 + (k - 200) = k from by omega] at e2
    have e3 : firstL.length = 8 := rfl
    rw [legateref02_Start.l0, if_pos (by omega), e1]
    simp only [Option.bind_some]
    rw [e2]
    simp only [Option.bind_some]
    rw [if_pos (by rw [List.length_take]; omega), e]
    have e4 : firstL.take i ++ [firstL.getD i 0] = firstL.take (i + 1) := by
      rw [List.take_succ_eq_append_getElem (by omega)]
      simp [show i < firstL.length by omega]
    rw [e4]
    exact ih (i + 1) k (by omega) (by omega)
theorem start_ref (k : Nat) (hk : 6000 ≤ k) : legateref02_Start.f k = some (stB firstL) := start_l0 8 0 k (by omega) (by omega)
theorem works02_ge (k : Nat) (hk : 1000 ≤ k) : legatelaw02_works.f k = some true := by
  obtain ⟨n, rfl⟩ : ∃ n, k = 1000 + n := ⟨k - 1000, by omega⟩
  clear hk
  induction n with
  | zero => exact works02
  | succ n ih => exact legatelaw02_works.mono _ _ ih
end Go.Proofs.YtkgijkfcmbpgpaaDoor.Giv
