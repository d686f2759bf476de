/- DeriveLong: each principal's key, of each version, and each session's, is just what the document says. -/
import Derived.Test.YtkgijkfcmbpgpaaDoorMDerive
import Derived.Test.YtkgijkfcmbpgpaaDoorPAllx16
namespace Go.Proofs.YtkgijkfcmbpgpaaDoor.Pure
open Go.RowKit Go.Proofs.YtkgijkfcmbpgpaaDoor.PAll Go.Proofs.YtkgijkfcmbpgpaaDoorW.PrintWords Go.Proofs.YtkgijkfcmbpgpaaDoorW.PrintLast
open Go.Proofs.YtkgijkfcmbpgpaaDoor.Giv
set_option linter.unusedVariables false
set_option linter.unusedSimpArgs false

theorem dl_out (k : Nat) (a : ByteArray) (n : Int) (s : ByteArray) : legatelaw06_DeriveLong.j0 (k + 1) a n s true true = some true := by
  rw [legatelaw06_DeriveLong.j0, if_pos rfl]
theorem dl_in (k : Nat) (hk : 6000 ≤ k) (a : ByteArray) (n : Int) (s : ByteArray) (ha : a.size ≤ 200) (hs : s.size ≤ 200) : legatelaw06_DeriveLong.j0 (k + 1) a n s true false = some true := by
  rw [legatelaw06_DeriveLong.j0, if_neg (by simp), ref_new k hk]
  simp only [Option.bind_some, if_true]
  rw [dlong_some a n s (by omega) (by omega), ref_dlong a n s (by omega) (by omega) k (by omega)]
  simp only [Option.bind_some, if_true]
  rw [dsess_some n s (by omega), ref_dsess n s (by omega) k (by omega)]
  simp only [Option.bind_some, if_true]
  simp
theorem DeriveLong : legatelaw06_DeriveLong.Pure := by
  intro a n s _ _ _
  refine ⟨7000, ?_⟩
  unfold legatelaw06_DeriveLong.f
  rw [works06]
  simp only [Option.bind_some, if_true]
  by_cases h1 : (a.size : Int) > 200
  · rw [if_pos h1]; exact dl_out 6999 a n s
  rw [if_neg h1]
  by_cases h2 : (s.size : Int) > 200
  · rw [decide_eq_true h2]; exact dl_out 6999 a n s
  · rw [decide_eq_false h2]; exact dl_in 6999 (by omega) a n s (by omega) (by omega)

end Go.Proofs.YtkgijkfcmbpgpaaDoor.Pure
