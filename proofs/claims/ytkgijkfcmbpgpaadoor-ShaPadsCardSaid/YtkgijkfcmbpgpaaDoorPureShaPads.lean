/- ShaPads: what is laid behind a text tells its length and nothing else, for lengths up to 2^60; a length below 0 has none. -/
import Derived.Test.YtkgijkfcmbpgpaaDoorGSha
import Derived.Test.YtkgijkfcmbpgpaaDoorMPad
import Derived.Test.YtkgijkfcmbpgpaaDoorMWorks02
import Derived.Test.YtkgijkfcmbpgpaaDoorPAllx8
namespace Go.Proofs.YtkgijkfcmbpgpaaDoor.Pure
open Go.RowKit Go.Proofs.YtkgijkfcmbpgpaaDoor.PAll Go.Proofs.YtkgijkfcmbpgpaaDoorW.PrintWords Go.Proofs.YtkgijkfcmbpgpaaDoorW.PrintLast
open Go.Proofs.YtkgijkfcmbpgpaaDoor.Giv

theorem pads_out (k : Nat) (a b : Int) : legatelaw02_ShaPads.j0 (k + 1) a b true true = some true := by
  simp only [legatelaw02_ShaPads.j0, if_true]
  by_cases h0 : a ≥ 0
  · rw [if_pos h0]
  · rw [if_neg h0, pad_neg _ _ (by omega)]
    simp only [Option.bind_some]
    rw [ByteArray.toList_eq]
    rfl
theorem pads_in (k : Nat) (hk : 100 ≤ k) (a b : Int) (ha : 0 ≤ a ∧ a ≤ 1152921504606846976) (hb : 0 ≤ b ∧ b ≤ 1152921504606846976) : legatelaw02_ShaPads.j0 (k + 1) a b true false = some true := by
  simp only [legatelaw02_ShaPads.j0, if_true]
  rw [if_neg (by simp), pad_ge k hk a ha.1]
  simp only [Option.bind_some]
  rw [pad_ge k hk b hb.1]
  simp only [Option.bind_some]
  have e : ((a == b) == ((padB a).toList == (padB b).toList)) = true := by
    rw [toList_beq]
    by_cases h : a = b
    · subst h; simp
    · have : padB a ≠ padB b := fun e => h (padB_inj ha hb e)
      simp [h, this]
  have hs := padB_size a
  have hm := padB_mod a
  have hz := padZ_lt (a + 1)
  rw [if_pos e, if_pos (by omega), if_pos (by omega), if_pos (padB_head a)]
  have : (Int.tmod (wrap64 (a + ((padB a).size : Int))) 64 == 0) = true := by
    rw [beq_iff_eq]
    apply Int.tmod_eq_zero_of_dvd
    unfold wrap64
    omega
  rw [this]

theorem ShaPads : legatelaw02_ShaPads.Pure := by
  intro a b _ _
  refine ⟨1000, ?_⟩
  unfold legatelaw02_ShaPads.f
  rw [works02]
  simp only [Option.bind_some, if_true]
  by_cases h1 : a < 0
  · rw [if_pos h1]; exact pads_out 999 a b
  rw [if_neg h1]
  by_cases h2 : b < 0
  · rw [if_pos h2]; exact pads_out 999 a b
  rw [if_neg h2]
  by_cases h3 : a > 1152921504606846976
  · rw [if_pos h3]; exact pads_out 999 a b
  rw [if_neg h3]
  by_cases h4 : b > 1152921504606846976
  · rw [decide_eq_true h4]; exact pads_out 999 a b
  · rw [decide_eq_false h4]; exact pads_in 999 (by omega) a b (by omega) (by omega)

end Go.Proofs.YtkgijkfcmbpgpaaDoor.Pure
