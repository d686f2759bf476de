/- ShaParts: the sum is that of block after block, with what is laid behind the text. -/
import Derived.Test.YtkgijkfcmbpgpaaDoorMSha2
import Derived.Test.YtkgijkfcmbpgpaaDoorMWorks02
import Derived.Test.YtkgijkfcmbpgpaaDoorPAllx8
namespace Go.Proofs.YtkgijkfcmbpgpaaDoor.Pure
open Go.RowKit Go.Proofs.YtkgijkfcmbpgpaaDoor.PAll Go.Proofs.YtkgijkfcmbpgpaaDoorW.PrintWords Go.Proofs.YtkgijkfcmbpgpaaDoorW.PrintLast
open Go.Proofs.YtkgijkfcmbpgpaaDoor.Giv

theorem parts_l0 (s : ByteArray) (n : Nat) (hs : s.size ≤ 5000) (hn : (s ++ padB s.size).size = 64 * n) : ∀ (d m k : Nat), m + d = n → d < k →
    legatelaw02_ShaParts.l0 k s true (s ++ padB s.size) (stB (stTo (s ++ padB s.size) m)) ((64 * m : Nat) : Int) = some true := by
  have hp := padB_size s.size
  have hz := padZ_lt ((s.size : Int) + 1)
  have hq : (s ++ padB s.size).size = s.size + (padB s.size).size := ByteArray.size_append
  intro d
  induction d with
  | zero =>
    intro m k hm hk
    obtain ⟨k, rfl⟩ : ∃ j, k = j + 1 := ⟨k - 1, by omega⟩
    obtain rfl : m = n := by omega
    simp only [legatelaw02_ShaParts.l0]
    have e : wrap64 (((64 * m : Nat) : Int) + 64) = ((64 * m + 64 : Nat) : Int) := by unfold wrap64; omega
    rw [e, if_neg (by omega), if_pos trivial, sum_st s m (by omega) hn]
    simp
  | succ d ih =>
    intro m k hm hk
    obtain ⟨k, rfl⟩ : ∃ j, k = j + 1 := ⟨k - 1, by omega⟩
    simp only [legatelaw02_ShaParts.l0]
    have e : wrap64 (((64 * m : Nat) : Int) + 64) = ((64 * m + 64 : Nat) : Int) := by unfold wrap64; omega
    rw [e, if_pos (by omega), if_pos (by omega), if_pos (by omega), Int.toNat_natCast, Int.toNat_natCast, block_stTo _ m (by omega)]
    simp only [Option.bind_some]
    rw [stB_size (stTo_inR _ _).1, if_pos (by decide)]
    have := ih (m + 1) k (by omega) (by omega)
    rwa [show 64 * (m + 1) = 64 * m + 64 from by omega] at this

theorem ShaParts : legatelaw02_ShaParts.Pure := by
  intro s _
  refine ⟨1000, ?_⟩
  unfold legatelaw02_ShaParts.f
  rw [works02]
  simp only [Option.bind_some, if_true]
  by_cases h1 : (s.size : Int) > 5000
  · rw [if_pos h1]
  rw [if_neg h1, pad_ge 1000 (by omega) _ (by omega)]
  simp only [Option.bind_some]
  have hp := padB_size s.size
  have hm := padB_mod s.size
  have hz := padZ_lt ((s.size : Int) + 1)
  have hq : (s ++ padB s.size).size = s.size + (padB s.size).size := ByteArray.size_append
  rw [if_pos (by omega), if_pos (by omega)]
  have e9 : wrap64 ((s.size : Int) + 9) = (s.size : Int) + 9 := by unfold wrap64; omega
  have e72 : wrap64 ((s.size : Int) + 72) = (s.size : Int) + 72 := by unfold wrap64; omega
  rw [e9, e72, if_neg (by omega), decide_eq_false (by omega)]
  rw [show (1000 : Nat) = 999 + 1 from rfl]
  simp only [legatelaw02_ShaParts.j0]
  rw [if_neg (by simp), start_st]
  simp only [Option.bind_some]
  have hn : (s ++ padB s.size).size = 64 * ((s ++ padB s.size).size / 64) := by omega
  exact parts_l0 s _ (by omega) hn ((s ++ padB s.size).size / 64) 0 999 (by omega) (by omega)
end Go.Proofs.YtkgijkfcmbpgpaaDoor.Pure
