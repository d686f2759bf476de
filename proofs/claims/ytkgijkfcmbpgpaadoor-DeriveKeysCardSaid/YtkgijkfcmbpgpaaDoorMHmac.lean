/- Plain facts on keys as blocks, and on sums with keys. -/
import Derived.Test.YtkgijkfcmbpgpaaDoorMSha
import Derived.Test.YtkgijkfcmbpgpaaDoorGHmac
namespace Go.Proofs.YtkgijkfcmbpgpaaDoor.Giv
open Go.RowKit Go.Proofs.YtkgijkfcmbpgpaaDoorW.PrintWords Go.Proofs.YtkgijkfcmbpgpaaDoorW.PrintLast Go.Proofs.YtkgijkfcmbpgpaaDoorW.PrintMore Go.Proofs.YtkgijkfcmbpgpaaDoor.PSub

theorem bt_inb (s : ByteArray) (j : Nat) (h : j < s.size) : bt s (j : Int) = ((s[j]'h).toNat : Int) := by
  unfold bt
  rw [dif_pos (by simpa using h)]
  simp
theorem bt_out0 (s : ByteArray) (j : Nat) (h : s.size ≤ j) : bt s (j : Int) = 0 := by
  unfold bt
  rw [dif_neg (by simpa using h)]
/-- Two texts are the same if their bytes are. -/
theorem bt_ext {a b : ByteArray} (hs : a.size = b.size) (h : ∀ j : Nat, j < a.size → bt a (j : Int) = bt b (j : Int)) : a = b := by
  apply ByteArray.ext
  apply Array.ext
  · exact hs
  · intro i h1 h2
    have e := h i h1
    rw [bt_inb a i h1, bt_inb b i h2] at e
    have e2 : (a[i]'h1).toNat = (b[i]'h2).toNat := by exact_mod_cast e
    exact UInt8.toNat_inj.1 e2
theorem bt_app_l (a b : ByteArray) (j : Nat) (h : j < a.size) : bt (a ++ b) (j : Int) = bt a (j : Int) := by
  rw [bt_inb _ _ (by rw [ByteArray.size_append]; omega), bt_inb _ _ h, ByteArray.getElem_append_left h]
theorem bt_app_r (a b : ByteArray) (j : Nat) (h : a.size ≤ j) : bt (a ++ b) (j : Int) = bt b ((j - a.size : Nat) : Int) := by
  by_cases hj : j < (a ++ b).size
  · have hq : j - a.size < b.size := by rw [ByteArray.size_append] at hj; omega
    rw [bt_inb _ _ hj, bt_inb _ _ hq, ByteArray.getElem_append_right h]
  · rw [bt_out0 _ _ (by omega), bt_out0 _ _ (by rw [ByteArray.size_append] at hj; omega)]
theorem str_append (l m : List Int) : strOfNums (l ++ m) = strOfNums l ++ strOfNums m := by
  apply ByteArray.ext
  rw [ByteArray.data_append]
  show ((l ++ m).map _).toArray = (l.map _).toArray ++ (m.map _).toArray
  simp
theorem fillL_byt (s : ByteArray) : Byt (fillL s) := by
  intro x hx
  obtain ⟨i, _, rfl⟩ := List.mem_map.1 hx
  exact bt_byte _ _
theorem bt_key (s : ByteArray) (j : Nat) (h : j < 64) : bt (keyB s) (j : Int) = bt s (j : Int) := by
  unfold keyB
  rw [bt_str _ (fillL_byt s) j (by rw [fillL_len]; exact h)]
  simp [fillL]
theorem keyB_size (s : ByteArray) : (keyB s).size = 64 := fill_size s
theorem keyB_of64 {s : ByteArray} (h : s.size = 64) : keyB s = s :=
  bt_ext (by rw [keyB_size, h]) fun j hj => bt_key s j (by rw [keyB_size] at hj; exact hj)
/-- Noughts behind a key change nothing. -/
theorem keyB_app (s z : ByteArray) (hz : ∀ j : Nat, bt z (j : Int) = 0) : keyB (s ++ z) = keyB s := by
  refine bt_ext (by rw [keyB_size, keyB_size]) fun j hj => ?_
  rw [keyB_size] at hj
  rw [bt_key _ j hj, bt_key _ j hj]
  by_cases h : j < s.size
  · exact bt_app_l s z j h
  · rw [bt_app_r s z j (by omega), hz, bt_out0 s j (by omega)]
theorem bt_zeros (n j : Nat) : bt (strOfNums (List.replicate n 0)) (j : Int) = 0 := by
  by_cases h : j < n
  · rw [bt_str _ (fun x hx => by rw [List.mem_replicate] at hx; omega) j (by simpa using h)]
    simp
  · exact bt_out0 _ _ (by rw [size_strOfNums]; simp; omega)
theorem sum_some (s : ByteArray) (h : s.size ≤ 100000000) : sha_Sum.f s = some (sumB s) := by unfold sha_Sum.f; rw [if_pos h]
theorem sumB_size (s : ByteArray) (h : s.size ≤ 100000000) : (sumB s).size = 32 := sum_size32 (sum_some s h)
/-- A key as a block. -/
def kyB (a : ByteArray) : ByteArray := if a.size ≤ 64 then keyB a else keyB (sumB a)
theorem kyB_size (a : ByteArray) : (kyB a).size = 64 := by unfold kyB; split <;> exact keyB_size _
theorem key_some (a : ByteArray) (h : a.size ≤ 100000000) : hmac_Key.f a = some (kyB a) := by
  unfold hmac_Key.f kyB
  split
  · rfl
  · rw [sum_some a h]; rfl
def macB (a m : ByteArray) : ByteArray := sumB (xorB (kyB a) 92 ++ sumB (xorB (kyB a) 54 ++ m))
theorem xorK_size (a : ByteArray) (c : Int) : (xorB (kyB a) c).size = 64 := by rw [xorB_size, kyB_size]
theorem mac_some (a m : ByteArray) (ha : a.size ≤ 100000000) (hm : m.size ≤ 90000000) : hmac_Mac.f a m = some (macB a m) := by
  have h1 : (xorB (kyB a) 54 ++ m).size ≤ 100000000 := by rw [ByteArray.size_append, xorK_size]; omega
  have h2 : (xorB (kyB a) 92 ++ sumB (xorB (kyB a) 54 ++ m)).size ≤ 100000000 := by rw [ByteArray.size_append, xorK_size, sumB_size _ h1]; omega
  unfold hmac_Mac.f
  rw [key_some a ha]
  simp only [Option.bind_some]
  rw [sum_some _ h1]
  simp only [Option.bind_some]
  rw [sum_some _ h2]
  rfl
theorem macB_size (a m : ByteArray) (hm : m.size ≤ 90000000) : (macB a m).size = 32 := by
  have h1 : (xorB (kyB a) 54 ++ m).size ≤ 100000000 := by rw [ByteArray.size_append, xorK_size]; omega
  exact sumB_size _ (by rw [ByteArray.size_append, xorK_size, sumB_size _ h1]; omega)
end Go.Proofs.YtkgijkfcmbpgpaaDoor.Giv
