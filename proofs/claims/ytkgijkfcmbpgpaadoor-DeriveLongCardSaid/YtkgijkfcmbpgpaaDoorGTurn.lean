/- The reference's turn of a word, at the ten turns that it is asked for. -/
import Derived.Test.YtkgijkfcmbpgpaaDoorGBase
namespace Go.Proofs.YtkgijkfcmbpgpaaDoor.Giv
open Go.RowKit Go.Proofs.YtkgijkfcmbpgpaaDoorW.PrintWords Go.Proofs.YtkgijkfcmbpgpaaDoorW.PrintLast Go.Proofs.YtkgijkfcmbpgpaaDoorW.PrintMore
set_option linter.unusedVariables false
def turnZ (x : Int) (k : Nat) : Int := x / (2 ^ k) + x % (2 ^ k) * 2 ^ (32 - k)
def legateref02_turn.f (a0 a1 : Int) : Option Int :=
  if 0 ≤ a0 ∧ a0 < 4294967296 ∧ (a1 = 2 ∨ a1 = 6 ∨ a1 = 7 ∨ a1 = 11 ∨ a1 = 13 ∨ a1 = 17 ∨ a1 = 18 ∨ a1 = 19 ∨ a1 = 22 ∨ a1 = 25) then some (turnZ a0 a1.toNat) else none
theorem ret_i64 {a b : Int} (h : a = b) : Ending.returned (.int .i64 a) = .returned (.int .i64 b) := by rw [h]

set_option maxHeartbeats 4000000 in
set_option maxRecDepth 100000 in
theorem legateref02_turn.calls (a0 : Int) (a1 : Int) (r : Int) (w : World) (h : legateref02_turn.f a0 a1 = some r) :
    Calls Tryd.prog 61 #[.int .i64 a0, .int .i64 a1] w fun e w' => e = .returned (.int .i64 r) ∧ Below w.heap.size w w' := by
  unfold legateref02_turn.f at h
  by_cases hc : 0 ≤ a0 ∧ a0 < 4294967296 ∧ (a1 = 2 ∨ a1 = 6 ∨ a1 = 7 ∨ a1 = 11 ∨ a1 = 13 ∨ a1 = 17 ∨ a1 = 18 ∨ a1 = 19 ∨ a1 = 22 ∨ a1 = 25)
  · rw [if_pos hc] at h
    obtain ⟨h0, h1, hk⟩ := hc
    have H := Aside0.mk (Option.some.inj h)
    clear h
    rcases hk with rfl | rfl | rfl | rfl | rfl | rfl | rfl | rfl | rfl | rfl
    all_goals
      go_enter Tryd.func61, Tryd.ntmps61
      go_wp2
      go_quiet (fail)
      go_wp2
      go_ret
      refine ⟨ret_i64 ?_, pw_below_drewN (Below.refl _ _) _⟩
      rw [← H.out]
      simp only [turnZ, Int.reduceToNat, Nat.reduceSub, Int.reducePow]
      try omega
  · rw [if_neg hc] at h
    cases h
end Go.Proofs.YtkgijkfcmbpgpaaDoor.Giv
