/- HmacKeys: a key with noughts behind it is the same, up to 64 bytes; a longer one is the same as its block. -/
import Derived.Test.YtkgijkfcmbpgpaaDoorMHmac
import Derived.Test.YtkgijkfcmbpgpaaDoorMWorks03
import Derived.Test.YtkgijkfcmbpgpaaDoorPAllx12
namespace Go.Proofs.YtkgijkfcmbpgpaaDoor.Pure
open Go.RowKit Go.Proofs.YtkgijkfcmbpgpaaDoor.PAll Go.Proofs.YtkgijkfcmbpgpaaDoorW.PrintWords Go.Proofs.YtkgijkfcmbpgpaaDoorW.PrintLast
open Go.Proofs.YtkgijkfcmbpgpaaDoor.Giv

theorem keys_out (k : Nat) (a : ByteArray) (n : Int) (s : ByteArray) : legatelaw03_HmacKeys.j0 (k + 1) a n s true true = some true := by
  rw [legatelaw03_HmacKeys.j0, if_pos rfl]
theorem keys_j1 (k : Nat) (a : ByteArray) (n : Nat) (s : ByteArray) (ha : a.size ≤ 300) (hs : s.size ≤ 300) (hn : n ≤ 64) :
    legatelaw03_HmacKeys.j1 (k + 1) a n s true (kyB a) false = some true := by
  rw [legatelaw03_HmacKeys.j1, if_neg (by simp)]
  have e : wrap64 ((a.size : Int) + (n : Int)) = (a.size : Int) + (n : Int) := by unfold wrap64; omega
  rw [e]
  by_cases h : (a.size : Int) + (n : Int) > 64
  · rw [if_pos h]
  · have hz : (strOfNums (List.replicate n 0)).size = n := by rw [size_strOfNums]; simp
    have hm : (a ++ strOfNums (List.replicate n 0)).size = a.size + n := by rw [ByteArray.size_append, hz]
    have hk : kyB (a ++ strOfNums (List.replicate n 0)) = kyB a := by
      rw [kyB_le (by omega), kyB_le (by omega)]
      exact keyB_app _ _ (bt_zeros n)
    rw [if_neg h, if_pos (by omega), Int.toNat_natCast, if_pos (by omega)]
    simp only [Option.bind_some]
    rw [if_pos (by omega), if_pos trivial, mac_some _ _ (by omega) (by omega), mac_some _ _ (by omega) (by omega)]
    simp only [Option.bind_some]
    rw [macB_key hk, if_pos rfl, key_some _ (by omega)]
    simp only [Option.bind_some]
    rw [hk, if_pos rfl, if_pos (by omega), if_pos (by rw [kyB_size]; omega)]
    have e2 : (kyB a).extract 0 a.size = a := by
      refine bt_ext (by simp [kyB_size]; omega) fun j hj => ?_
      have hj2 : j < a.size := by simp [kyB_size] at hj; omega
      have := bt_extract (kyB a) 0 a.size j (by omega) (by rw [kyB_size]; omega)
      rw [this, Nat.zero_add, kyB_le (by omega), bt_key _ _ (by omega)]
    rw [Int.toNat_natCast, e2]
    simp
theorem keys_in (k : Nat) (a : ByteArray) (n : Nat) (s : ByteArray) (ha : a.size ≤ 300) (hs : s.size ≤ 300) (hn : n ≤ 64) :
    legatelaw03_HmacKeys.j0 (k + 2) a n s true false = some true := by
  rw [legatelaw03_HmacKeys.j0, if_neg (by simp), key_some a (by omega)]
  simp only [Option.bind_some]
  rw [kyB_size, if_pos (by rfl), mac_some _ _ (by rw [kyB_size]; omega) (by omega), mac_some _ _ (by omega) (by omega)]
  simp only [Option.bind_some]
  rw [macB_key (kyB_kyB a), if_pos rfl, key_some _ (by rw [kyB_size]; omega)]
  simp only [Option.bind_some]
  rw [kyB_kyB]
  simp only [bne_self_eq_false]
  exact keys_j1 k a n s ha hs hn

theorem HmacKeys : legatelaw03_HmacKeys.Pure := by
  intro a n s _ _ _
  refine ⟨1000, ?_⟩
  unfold legatelaw03_HmacKeys.f
  rw [works03 _ (by omega)]
  simp only [Option.bind_some, if_true]
  by_cases h1 : (a.size : Int) > 300
  · rw [if_pos h1]; exact keys_out 999 a n s
  rw [if_neg h1]
  by_cases h2 : (s.size : Int) > 300
  · rw [if_pos h2]; exact keys_out 999 a n s
  rw [if_neg h2]
  by_cases h3 : n < 0
  · rw [if_pos h3]; exact keys_out 999 a n s
  rw [if_neg h3]
  by_cases h4 : n > 64
  · rw [decide_eq_true h4]; exact keys_out 999 a n s
  · rw [decide_eq_false h4]
    obtain ⟨m, rfl⟩ : ∃ m : Nat, n = m := ⟨n.toNat, by omega⟩
    exact keys_in 998 a m s (by omega) (by omega) (by omega)

end Go.Proofs.YtkgijkfcmbpgpaaDoor.Pure
