/- The reference's sums by blocks: the same as the program's. -/
import Derived.Test.YtkgijkfcmbpgpaaDoorMRef3
import Derived.Test.YtkgijkfcmbpgpaaDoorPAllx7
namespace Go.Proofs.YtkgijkfcmbpgpaaDoor.Giv
open Go.RowKit Go.Proofs.YtkgijkfcmbpgpaaDoorW.PrintWords Go.Proofs.YtkgijkfcmbpgpaaDoorW.PrintLast Go.Proofs.YtkgijkfcmbpgpaaDoorW.PrintMore Go.Proofs.YtkgijkfcmbpgpaaDoor.PSub Go.Proofs.YtkgijkfcmbpgpaaDoor.PAll
set_option linter.unusedVariables false
set_option linter.unusedSimpArgs false

theorem pad_same_l1 : ∀ (k : Nat) (n : Int) (x : List Int) (i : Int), legateref02_Pad.l1 k n x i = sha_Pad.l1 k n x i
  | 0, _, _, _ => by rw [legateref02_Pad.l1, sha_Pad.l1]
  | k + 1, n, x, i => by rw [legateref02_Pad.l1, sha_Pad.l1, pad_same_l1 k]
theorem pad_same_l0 : ∀ (k : Nat) (n : Int) (x : List Int), legateref02_Pad.l0 k n x = sha_Pad.l0 k n x
  | 0, _, _ => by rw [legateref02_Pad.l0, sha_Pad.l0]
  | k + 1, n, x => by rw [legateref02_Pad.l0, sha_Pad.l0, pad_same_l0 k, pad_same_l1 k]
theorem pad_same (k : Nat) (n : Int) : legateref02_Pad.f k n = sha_Pad.f k n := by
  unfold legateref02_Pad.f sha_Pad.f
  rw [pad_same_l0]
theorem ref_sum_l0 (t : ByteArray) (n : Nat) (ht : t.size = 64 * n) (hn : n ≤ 100000) : ∀ (d m k : Nat), m + d = n → d + 300 < k →
    legateref02_SumBy.l0 k keysL t (stB (stTo t m)) ((64 * m : Nat) : Int) = some (stB (stTo t n)) := by
  intro d
  induction d with
  | zero =>
    intro m k hm hk
    obtain ⟨k, rfl⟩ : ∃ j, k = j + 1 := ⟨k - 1, by omega⟩
    obtain rfl : m = n := by omega
    rw [legateref02_SumBy.l0, if_neg (by omega)]
  | succ d ih =>
    intro m k hm hk
    obtain ⟨k, rfl⟩ : ∃ j, k = j + 1 := ⟨k - 1, by omega⟩
    have e : wrap64 (((64 * m : Nat) : Int) + 64) = ((64 * m + 64 : Nat) : Int) := by unfold wrap64; omega
    rw [legateref02_SumBy.l0, e, if_pos (by omega), if_pos (by omega), if_pos (by omega), if_pos (by omega), Int.toNat_natCast, Int.toNat_natCast, ref_block _ _ k (by omega), block_stTo t m (by omega)]
    simp only [Option.bind_some]
    have := ih (m + 1) k (by omega) (by omega)
    rwa [show 64 * (m + 1) = 64 * m + 64 from by omega] at this
/-- The reference's sum is the program's. -/
theorem ref_sumBy (s : ByteArray) (hs : s.size ≤ 5000) (k : Nat) (hk : 1000 ≤ k) : legateref02_SumBy.f k keysL (stB firstL) s = sha_Sum.f s := by
  unfold legateref02_SumBy.f
  have hp := padB_size s.size
  have hm := padB_mod s.size
  have hz := padZ_lt ((s.size : Int) + 1)
  have hq : (s ++ padB s.size).size = s.size + (padB s.size).size := ByteArray.size_append
  obtain ⟨n, hn⟩ : ∃ n, (s ++ padB s.size).size = 64 * n := ⟨(s ++ padB s.size).size / 64, by omega⟩
  rw [pad_same, pad_ge k (by omega) _ (by omega)]
  simp only [Option.bind_some]
  rw [if_pos (by omega), sum_st s n (by omega) hn]
  exact ref_sum_l0 _ n hn (by omega) n 0 k (by omega) (by omega)
end Go.Proofs.YtkgijkfcmbpgpaaDoor.Giv
