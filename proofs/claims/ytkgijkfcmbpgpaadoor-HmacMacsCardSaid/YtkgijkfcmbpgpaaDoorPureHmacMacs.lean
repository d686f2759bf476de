/- HmacMacs: the sum of any text with any key, and the key as a block, is just what the document says. -/
import Derived.Test.YtkgijkfcmbpgpaaDoorMRef
import Derived.Test.YtkgijkfcmbpgpaaDoorMWorks03
import Derived.Test.YtkgijkfcmbpgpaaDoorPAllx11
namespace Go.Proofs.YtkgijkfcmbpgpaaDoor.Pure
open Go.RowKit Go.Proofs.YtkgijkfcmbpgpaaDoor.PAll Go.Proofs.YtkgijkfcmbpgpaaDoorW.PrintWords Go.Proofs.YtkgijkfcmbpgpaaDoorW.PrintLast
open Go.Proofs.YtkgijkfcmbpgpaaDoor.Giv
set_option linter.unusedVariables false
set_option linter.unusedSimpArgs false

theorem macs_out (k : Nat) (a s : ByteArray) : legatelaw03_HmacMacs.j0 (k + 1) a s true true = some true := by
  rw [legatelaw03_HmacMacs.j0, if_pos rfl]
theorem macs_in (k : Nat) (hk : 6000 ≤ k) (a s : ByteArray) (ha : a.size ≤ 300) (hs : s.size ≤ 300) : legatelaw03_HmacMacs.j0 (k + 1) a s true false = some true := by
  rw [legatelaw03_HmacMacs.j0, if_neg (by simp), ref_new k hk]
  simp only [Option.bind_some, if_true]
  rw [mac_some a s (by omega) (by omega), ref_mac a s (by omega) (by omega) k (by omega)]
  simp only [Option.bind_some, if_true]
  rw [key_some a (by omega), ref_key a (by omega) k (by omega)]
  simp only [Option.bind_some, if_true]
  simp
theorem HmacMacs : legatelaw03_HmacMacs.Pure := by
  intro a s _ _
  refine ⟨7000, ?_⟩
  unfold legatelaw03_HmacMacs.f
  rw [works03 _ (by omega)]
  simp only [Option.bind_some, if_true]
  by_cases h1 : (a.size : Int) > 300
  · rw [if_pos h1]; exact macs_out 6999 a s
  rw [if_neg h1]
  by_cases h2 : (s.size : Int) > 300
  · rw [decide_eq_true h2]; exact macs_out 6999 a s
  · rw [decide_eq_false h2]; exact macs_in 6999 (by omega) a s (by omega) (by omega)

end Go.Proofs.YtkgijkfcmbpgpaaDoor.Pure
