/- Plain facts on the pad and on texts out of numbers. -/
import Derived.Test.YtkgijkfcmbpgpaaDoorGSha
namespace Go.Proofs.YtkgijkfcmbpgpaaDoor.Giv
open Go.RowKit Go.Proofs.YtkgijkfcmbpgpaaDoorW.PrintWords Go.Proofs.YtkgijkfcmbpgpaaDoorW.PrintLast Go.Proofs.YtkgijkfcmbpgpaaDoorW.PrintMore

/-- All are bytes. -/
def Byt (l : List Int) : Prop := ∀ x ∈ l, 0 ≤ x ∧ x < 256
theorem toList_str (l : List Int) : (strOfNums l).toList = l.map fun n => UInt8.ofNat n.toNat := by
  rw [ByteArray.toList_eq]; simp [strOfNums]
theorem toList_inj {a b : ByteArray} (h : a.toList = b.toList) : a = b := by
  rw [ByteArray.toList_eq, ByteArray.toList_eq] at h
  apply ByteArray.ext
  exact Array.toList_inj.1 h
theorem toList_iff (a b : ByteArray) : a.toList = b.toList ↔ a = b := ⟨toList_inj, fun h => by rw [h]⟩
theorem toList_beq (a b : ByteArray) : (a.toList == b.toList) = decide (a = b) := by
  by_cases h : a = b
  · subst h; simp
  · have : a.toList ≠ b.toList := fun e => h (toList_inj e)
    simp [h, this]
theorem byte_back {x : Int} (h : 0 ≤ x ∧ x < 256) : ((UInt8.ofNat x.toNat).toNat : Int) = x := by
  have : x.toNat < 256 := by omega
  simp [UInt8.toNat_ofNat_of_lt' (show x.toNat < UInt8.size from this)]
  omega
theorem str_inj {a b : List Int} (ha : Byt a) (hb : Byt b) (h : strOfNums a = strOfNums b) : a = b := by
  have h2 := congrArg (fun s : ByteArray => s.toList.map fun u => (u.toNat : Int)) h
  simp only [toList_str, List.map_map] at h2
  have e : ∀ l : List Int, Byt l → l.map ((fun u : UInt8 => (u.toNat : Int)) ∘ fun n => UInt8.ofNat n.toNat) = l := by
    intro l hl
    conv => rhs; rw [← List.map_id l]
    exact List.map_congr_left fun x hx => byte_back (hl x hx)
  rwa [e a ha, e b hb] at h2

theorem lenB_nat (n : Int) (j : Nat) : lenB n j = (IntKind.u64.wrap ((IntKind.u64.wrap n) * 8)) / 2 ^ min (8 * j) 64 % 256 := by
  unfold lenB shr
  rw [show (((8 * j : Nat) : Int)).toNat = 8 * j from by omega]
  rfl
theorem lenB_byte (n : Int) (j : Nat) : 0 ≤ lenB n j ∧ lenB n j < 256 := by
  rw [lenB_nat]
  omega
theorem lenL_byt (n : Int) : Byt (lenL n) := by
  intro x hx
  simp only [lenL, List.mem_cons, List.not_mem_nil, or_false] at hx
  rcases hx with rfl | rfl | rfl | rfl | rfl | rfl | rfl | rfl <;> exact lenB_byte _ _
theorem padL_byt (n : Int) : Byt (padL n) := by
  intro x hx
  simp only [padL, List.cons_append, List.mem_cons, List.mem_append] at hx
  rcases hx with rfl | hx | hx
  · omega
  · rw [List.mem_replicate] at hx; omega
  · exact lenL_byt n x hx
theorem digit_step {x y a b : Int} (hb : b = a * 256) (ha : 0 < a) (h1 : x / b = y / b) (h2 : x / a % 256 = y / a % 256) : x / a = y / a := by
  subst hb
  rw [← Int.ediv_ediv_of_nonneg (by omega), ← Int.ediv_ediv_of_nonneg (by omega)] at h1
  omega
theorem lenL_inj {n m : Int} (hn : 0 ≤ n ∧ n ≤ 1152921504606846976) (hm : 0 ≤ m ∧ m ≤ 1152921504606846976) (h : lenL n = lenL m) : n = m := by
  simp only [lenL, List.cons.injEq, lenB_nat] at h
  obtain ⟨h7, h6, h5, h4, h3, h2, h1, h0, _⟩ := h
  have e1 : ∀ n : Int, 0 ≤ n ∧ n ≤ 1152921504606846976 → IntKind.u64.wrap ((IntKind.u64.wrap n) * 8) = n * 8 := by
    intro n hn
    rw [IntKind.wrap_u64, IntKind.wrap_u64]; omega
  rw [e1 n hn, e1 m hm] at h7 h6 h5 h4 h3 h2 h1 h0
  simp only [Nat.reduceMul, Nat.mul_one, Nat.mul_zero, Nat.reduceLeDiff, Nat.min_eq_left, Nat.zero_le, Int.reducePow, Int.pow_zero] at h7 h6 h5 h4 h3 h2 h1 h0
  have hx : 0 ≤ n * 8 ∧ n * 8 < 18446744073709551616 := by omega
  have hy : 0 ≤ m * 8 ∧ m * 8 < 18446744073709551616 := by omega
  suffices e : n * 8 = m * 8 by omega
  generalize n * 8 = x at *
  generalize m * 8 = y at *
  have k8 : x / 18446744073709551616 = y / 18446744073709551616 := by rw [Int.ediv_eq_zero_of_lt hx.1 hx.2, Int.ediv_eq_zero_of_lt hy.1 hy.2]
  have k7 := digit_step (a := 72057594037927936) rfl (by omega) k8 h7
  have k6 := digit_step (a := 281474976710656) rfl (by omega) k7 h6
  have k5 := digit_step (a := 1099511627776) rfl (by omega) k6 h5
  have k4 := digit_step (a := 4294967296) rfl (by omega) k5 h4
  have k3 := digit_step (a := 16777216) rfl (by omega) k4 h3
  have k2 := digit_step (a := 65536) rfl (by omega) k3 h2
  have k1 := digit_step (a := 256) rfl (by omega) k2 h1
  have k0 := digit_step (a := 1) rfl (by omega) k1 h0
  simpa using k0
theorem padB_inj {n m : Int} (hn : 0 ≤ n ∧ n ≤ 1152921504606846976) (hm : 0 ≤ m ∧ m ≤ 1152921504606846976) (h : padB n = padB m) : n = m := by
  have h1 := str_inj (padL_byt n) (padL_byt m) h
  have hs : padZ (n + 1) = padZ (m + 1) := by
    have := congrArg List.length h1
    simp [padL, lenL] at this
    exact this
  unfold padL at h1
  rw [hs] at h1
  have h2 := List.append_cancel_left h1
  exact lenL_inj hn hm h2
theorem pad_ge (k : Nat) (hk : 100 ≤ k) (n : Int) (h : 0 ≤ n) : PAll.sha_Pad.f k n = some (padB n) := by
  unfold PAll.sha_Pad.f
  rw [if_neg (by omega)]
  have hz := padZ_lt (n + 1)
  have := pad_l0 n (padZ (n + 1)) (k - 10 - padZ (n + 1)) [128] (by simp; omega) rfl
  rw [show k - 10 - padZ (n + 1) + padZ (n + 1) + 10 = k from by omega] at this
  rw [this]
  rfl
theorem padB_head (n : Int) : bt (padB n) 0 = 128 := by
  unfold bt padB
  rw [dif_pos (by rw [size_strOfNums]; simp [padL])]
  rfl
end Go.Proofs.YtkgijkfcmbpgpaaDoor.Giv
