/- HmacSums: what a sum with a key is, is told by two sums of texts: of the inner one, and of the outer one. -/
import Derived.Test.YtkgijkfcmbpgpaaDoorMHmac
import Derived.Test.YtkgijkfcmbpgpaaDoorMWorks03
import Derived.Test.YtkgijkfcmbpgpaaDoorPAllx12
namespace Go.Proofs.YtkgijkfcmbpgpaaDoor.Pure
open Go.RowKit Go.Proofs.YtkgijkfcmbpgpaaDoor.PAll Go.Proofs.YtkgijkfcmbpgpaaDoorW.PrintWords Go.Proofs.YtkgijkfcmbpgpaaDoorW.PrintLast
open Go.Proofs.YtkgijkfcmbpgpaaDoor.Giv

theorem sums_l0 (a s : ByteArray) (ha : a.size ≤ 1000) (hs : s.size ≤ 1000) : ∀ (n m k : Nat), m + n = 64 → n < k →
    legatelaw03_HmacSums.l0 k a s true (kyB a) (strOfNums (xtL (kyB a) 54 m)) (strOfNums (xtL (kyB a) 92 m)) (m : Int) = some true := by
  have hz : ∀ c m, (strOfNums (xtL (kyB a) c m)).size = m := fun c m => by rw [size_strOfNums]; simp [xtL]
  have hk64 := kyB_size a
  intro n
  induction n with
  | zero =>
    intro m k hm hk
    obtain ⟨k, rfl⟩ : ∃ j, k = j + 1 := ⟨k - 1, by omega⟩
    obtain rfl : m = 64 := by omega
    have e1 : strOfNums (xtL (kyB a) 54 64) = xorB (kyB a) 54 := by rw [← xtL_all, hk64]
    have e2 : strOfNums (xtL (kyB a) 92 64) = xorB (kyB a) 92 := by rw [← xtL_all, hk64]
    have h1 : (xorB (kyB a) 54 ++ s).size ≤ 100000000 := by rw [ByteArray.size_append, xorK_size]; omega
    have h2 : (xorB (kyB a) 92 ++ sumB (xorB (kyB a) 54 ++ s)).size ≤ 100000000 := by rw [ByteArray.size_append, xorK_size, sumB_size _ h1]; omega
    have x1 := xorK_size a 54
    have x2 := xorK_size a 92
    have x3 := sumB_size _ h1
    rw [legatelaw03_HmacSums.l0, if_neg (by omega), if_pos rfl, if_pos (by omega), mac_some a s (by omega) (by omega), e1, e2]
    simp only [Option.bind_some]
    rw [if_pos (by omega), sum_some _ h1]
    simp only [Option.bind_some]
    rw [if_pos (by omega), sum_some _ h2]
    simp only [Option.bind_some]
    simp [macB]
  | succ n ih =>
    intro m k hm hk
    obtain ⟨k, rfl⟩ : ∃ j, k = j + 1 := ⟨k - 1, by omega⟩
    have e : wrap64 ((m : Int) + 1) = ((m + 1 : Nat) : Int) := by unfold wrap64; omega
    have s1 : ∀ x : Int, (strOfNums [x]).size = 1 := fun x => by rw [size_strOfNums]; rfl
    rw [legatelaw03_HmacSums.l0, if_pos (by omega), if_pos (by omega)]
    simp only [Option.bind_some]
    rw [if_pos (by rw [hz, s1]; omega), if_pos (by rw [hz, s1]; omega), ← str_append, ← str_append, ← xtL_succ, ← xtL_succ, e]
    exact ih (m + 1) k (by omega) (by omega)
theorem sums_out (k : Nat) (a s : ByteArray) : legatelaw03_HmacSums.j0 (k + 1) a s true true = some true := by
  rw [legatelaw03_HmacSums.j0, if_pos rfl]
theorem sums_in (k : Nat) (hk : 100 < k) (a s : ByteArray) (ha : a.size ≤ 1000) (hs : s.size ≤ 1000) : legatelaw03_HmacSums.j0 (k + 1) a s true false = some true := by
  rw [legatelaw03_HmacSums.j0, if_neg (by simp), key_some a (by omega)]
  simp only [Option.bind_some]
  exact sums_l0 a s ha hs 64 0 k (by omega) (by omega)

theorem HmacSums : legatelaw03_HmacSums.Pure := by
  intro a s _ _
  refine ⟨1000, ?_⟩
  unfold legatelaw03_HmacSums.f
  rw [works03 _ (by omega)]
  simp only [Option.bind_some, if_true]
  by_cases h1 : (a.size : Int) > 1000
  · rw [if_pos h1]; exact sums_out 999 a s
  rw [if_neg h1]
  by_cases h2 : (s.size : Int) > 1000
  · rw [decide_eq_true h2]; exact sums_out 999 a s
  · rw [decide_eq_false h2]; exact sums_in 999 (by omega) a s (by omega) (by omega)

end Go.Proofs.YtkgijkfcmbpgpaaDoor.Pure
