/- The reference's words: turns, sums of bits, texts as words and back: the same as the program's. -/
import Derived.Test.YtkgijkfcmbpgpaaDoorMSha2
import Derived.Test.YtkgijkfcmbpgpaaDoorMHmac
import Derived.KernelRfl
namespace Go.Proofs.YtkgijkfcmbpgpaaDoor.Giv
open Go.RowKit Go.Proofs.YtkgijkfcmbpgpaaDoorW.PrintWords Go.Proofs.YtkgijkfcmbpgpaaDoorW.PrintLast Go.Proofs.YtkgijkfcmbpgpaaDoorW.PrintMore Go.Proofs.YtkgijkfcmbpgpaaDoor.PSub

theorem w64 {x : Int} (h0 : 0 ≤ x) (h1 : x < 9223372036854775808) : wrap64 x = x := by unfold wrap64; omega
theorem td {x : Int} (h0 : 0 ≤ x) (d : Int) : Int.tdiv x d = x / d := Int.tdiv_eq_ediv_of_nonneg h0
theorem tm {x : Int} (h0 : 0 ≤ x) (d : Int) : Int.tmod x d = x % d := Int.tmod_eq_emod_of_nonneg h0
theorem ofInt_i64 (a : Nat) (ha : a < 18446744073709551616) : (BitVec.ofInt 64 (a : Int)).toNat = a := by
  rw [BitVec.ofInt_natCast, BitVec.toNat_ofNat]; exact Nat.mod_eq_of_lt (by omega)
theorem i64_xor32 (a b : Int) (ha : W32 a) (hb : W32 b) : Go.bits .xor .i64 a b = Go.bits .xor .u32 a b := by
  rw [u32_xor a b ha.1 ha.2 hb.1 hb.2]
  obtain ⟨A, rfl⟩ := Int.eq_ofNat_of_zero_le ha.1
  obtain ⟨B, rfl⟩ := Int.eq_ofNat_of_zero_le hb.1
  have h1 := ha.2
  have h2 := hb.2
  have hx : A ^^^ B < 2 ^ 32 := Nat.xor_lt_two_pow (by omega) (by omega)
  show IntKind.i64.wrap ((BitVec.ofInt 64 (A : Int) ^^^ BitVec.ofInt 64 (B : Int)).toNat : Int) = _
  rw [BitVec.toNat_xor, ofInt_i64 A (by omega), ofInt_i64 B (by omega), IntWalk.i64_in _ (by omega)]
  simp
theorem i64_and32 (a b : Int) (ha : W32 a) (hb : W32 b) : Go.bits .and .i64 a b = Go.bits .and .u32 a b := by
  rw [u32_and a b ha.1 ha.2 hb.1 hb.2]
  obtain ⟨A, rfl⟩ := Int.eq_ofNat_of_zero_le ha.1
  obtain ⟨B, rfl⟩ := Int.eq_ofNat_of_zero_le hb.1
  have h1 := ha.2
  have h2 := hb.2
  have hx : A &&& B < 2 ^ 32 := Nat.and_lt_two_pow _ (by omega)
  show IntKind.i64.wrap ((BitVec.ofInt 64 (A : Int) &&& BitVec.ofInt 64 (B : Int)).toNat : Int) = _
  rw [BitVec.toNat_and, ofInt_i64 A (by omega), ofInt_i64 B (by omega), IntWalk.i64_in _ (by omega)]
  simp
theorem xor_w (a b : Int) (ha : W32 a) (hb : W32 b) : W32 (Go.bits .xor .u32 a b) := by
  rw [u32_xor a b ha.1 ha.2 hb.1 hb.2]
  have h1 := ha.2
  have h2 := hb.2
  have := Nat.xor_lt_two_pow (n := 32) (show a.toNat < 2 ^ 32 by have := ha.1; omega) (show b.toNat < 2 ^ 32 by have := hb.1; omega)
  unfold W32; omega
theorem and_w (a b : Int) (ha : W32 a) (hb : W32 b) : W32 (Go.bits .and .u32 a b) := by
  rw [u32_and a b ha.1 ha.2 hb.1 hb.2]
  have h1 := ha.2
  have h2 := hb.2
  have := Nat.and_lt_two_pow (n := 32) a.toNat (show b.toNat < 2 ^ 32 by have := hb.1; omega)
  unfold W32; omega
theorem not_32 (e : Int) (h : W32 e) : Go.bits .xor .u32 (if IntKind.u32.signed = true then -1 else IntKind.u32.max) e = 4294967295 - e := by
  have e0 : (if IntKind.u32.signed = true then (-1 : Int) else IntKind.u32.max) = 4294967295 := rfl
  rw [e0, u32_xor _ e (by omega) (by omega) h.1 h.2]
  obtain ⟨E, rfl⟩ := Int.eq_ofNat_of_zero_le h.1
  have h2 := h.2
  have e1 : (BitVec.allOnes 32 ^^^ BitVec.ofNat 32 E).toNat = (~~~ BitVec.ofNat 32 E).toNat := by rw [BitVec.allOnes_xor]
  rw [BitVec.toNat_xor, BitVec.toNat_not, BitVec.toNat_allOnes, BitVec.toNat_ofNat, Nat.mod_eq_of_lt (by omega)] at e1
  have e2 : (4294967295 : Int).toNat ^^^ ((E : Nat) : Int).toNat = 4294967295 - E := by
    simp only [Int.toNat_natCast]
    simpa using e1
  rw [e2]
  omega
theorem not_w (e : Int) (h : W32 e) : W32 (4294967295 - e) := by unfold W32 at h ⊢; omega
theorem rr_2 (x : Int) (h : W32 x) : rr x 2 = turnZ x 2 := by
  have e0 : rr x 2 = Go.bits .or .u32 ((x * 1073741824) % 4294967296) (x / 4) := by kernel_rfl
  have h1 : (x * 1073741824) % 4294967296 = x % 4 * 1073741824 := by omega
  unfold W32 at h
  rw [e0, h1, or_join (x % 4 * 1073741824) (x / 4) 30 1073741824 (by decide) (by unfold W32; omega) (by unfold W32; omega) (by omega) (by omega)]
  simp only [turnZ, Int.reducePow, Nat.reduceSub]
  omega
theorem rr_6 (x : Int) (h : W32 x) : rr x 6 = turnZ x 6 := by
  have e0 : rr x 6 = Go.bits .or .u32 ((x * 67108864) % 4294967296) (x / 64) := by kernel_rfl
  have h1 : (x * 67108864) % 4294967296 = x % 64 * 67108864 := by omega
  unfold W32 at h
  rw [e0, h1, or_join (x % 64 * 67108864) (x / 64) 26 67108864 (by decide) (by unfold W32; omega) (by unfold W32; omega) (by omega) (by omega)]
  simp only [turnZ, Int.reducePow, Nat.reduceSub]
  omega
theorem rr_7 (x : Int) (h : W32 x) : rr x 7 = turnZ x 7 := by
  have e0 : rr x 7 = Go.bits .or .u32 ((x * 33554432) % 4294967296) (x / 128) := by kernel_rfl
  have h1 : (x * 33554432) % 4294967296 = x % 128 * 33554432 := by omega
  unfold W32 at h
  rw [e0, h1, or_join (x % 128 * 33554432) (x / 128) 25 33554432 (by decide) (by unfold W32; omega) (by unfold W32; omega) (by omega) (by omega)]
  simp only [turnZ, Int.reducePow, Nat.reduceSub]
  omega
theorem rr_11 (x : Int) (h : W32 x) : rr x 11 = turnZ x 11 := by
  have e0 : rr x 11 = Go.bits .or .u32 ((x * 2097152) % 4294967296) (x / 2048) := by kernel_rfl
  have h1 : (x * 2097152) % 4294967296 = x % 2048 * 2097152 := by omega
  unfold W32 at h
  rw [e0, h1, or_join (x % 2048 * 2097152) (x / 2048) 21 2097152 (by decide) (by unfold W32; omega) (by unfold W32; omega) (by omega) (by omega)]
  simp only [turnZ, Int.reducePow, Nat.reduceSub]
  omega
theorem rr_13 (x : Int) (h : W32 x) : rr x 13 = turnZ x 13 := by
  have e0 : rr x 13 = Go.bits .or .u32 ((x * 524288) % 4294967296) (x / 8192) := by kernel_rfl
  have h1 : (x * 524288) % 4294967296 = x % 8192 * 524288 := by omega
  unfold W32 at h
  rw [e0, h1, or_join (x % 8192 * 524288) (x / 8192) 19 524288 (by decide) (by unfold W32; omega) (by unfold W32; omega) (by omega) (by omega)]
  simp only [turnZ, Int.reducePow, Nat.reduceSub]
  omega
theorem rr_17 (x : Int) (h : W32 x) : rr x 17 = turnZ x 17 := by
  have e0 : rr x 17 = Go.bits .or .u32 ((x * 32768) % 4294967296) (x / 131072) := by kernel_rfl
  have h1 : (x * 32768) % 4294967296 = x % 131072 * 32768 := by omega
  unfold W32 at h
  rw [e0, h1, or_join (x % 131072 * 32768) (x / 131072) 15 32768 (by decide) (by unfold W32; omega) (by unfold W32; omega) (by omega) (by omega)]
  simp only [turnZ, Int.reducePow, Nat.reduceSub]
  omega
theorem rr_18 (x : Int) (h : W32 x) : rr x 18 = turnZ x 18 := by
  have e0 : rr x 18 = Go.bits .or .u32 ((x * 16384) % 4294967296) (x / 262144) := by kernel_rfl
  have h1 : (x * 16384) % 4294967296 = x % 262144 * 16384 := by omega
  unfold W32 at h
  rw [e0, h1, or_join (x % 262144 * 16384) (x / 262144) 14 16384 (by decide) (by unfold W32; omega) (by unfold W32; omega) (by omega) (by omega)]
  simp only [turnZ, Int.reducePow, Nat.reduceSub]
  omega
theorem rr_19 (x : Int) (h : W32 x) : rr x 19 = turnZ x 19 := by
  have e0 : rr x 19 = Go.bits .or .u32 ((x * 8192) % 4294967296) (x / 524288) := by kernel_rfl
  have h1 : (x * 8192) % 4294967296 = x % 524288 * 8192 := by omega
  unfold W32 at h
  rw [e0, h1, or_join (x % 524288 * 8192) (x / 524288) 13 8192 (by decide) (by unfold W32; omega) (by unfold W32; omega) (by omega) (by omega)]
  simp only [turnZ, Int.reducePow, Nat.reduceSub]
  omega
theorem rr_22 (x : Int) (h : W32 x) : rr x 22 = turnZ x 22 := by
  have e0 : rr x 22 = Go.bits .or .u32 ((x * 1024) % 4294967296) (x / 4194304) := by kernel_rfl
  have h1 : (x * 1024) % 4294967296 = x % 4194304 * 1024 := by omega
  unfold W32 at h
  rw [e0, h1, or_join (x % 4194304 * 1024) (x / 4194304) 10 1024 (by decide) (by unfold W32; omega) (by unfold W32; omega) (by omega) (by omega)]
  simp only [turnZ, Int.reducePow, Nat.reduceSub]
  omega
theorem rr_25 (x : Int) (h : W32 x) : rr x 25 = turnZ x 25 := by
  have e0 : rr x 25 = Go.bits .or .u32 ((x * 128) % 4294967296) (x / 33554432) := by kernel_rfl
  have h1 : (x * 128) % 4294967296 = x % 33554432 * 128 := by omega
  unfold W32 at h
  rw [e0, h1, or_join (x % 33554432 * 128) (x / 33554432) 7 128 (by decide) (by unfold W32; omega) (by unfold W32; omega) (by omega) (by omega)]
  simp only [turnZ, Int.reducePow, Nat.reduceSub]
  omega
theorem turn_2 (x : Int) (h : W32 x) : legateref02_turn.f x 2 = some (rr x 2) := by
  rw [rr_2 x h]
  unfold W32 at h
  unfold legateref02_turn.f
  rw [if_pos ⟨h.1, h.2, by omega⟩]
  rfl
theorem rr_w_2 (x : Int) (h : W32 x) : W32 (rr x 2) := by
  rw [rr_2 x h]
  unfold W32 at h ⊢
  simp only [turnZ, Int.reducePow, Nat.reduceSub]
  omega
theorem turn_6 (x : Int) (h : W32 x) : legateref02_turn.f x 6 = some (rr x 6) := by
  rw [rr_6 x h]
  unfold W32 at h
  unfold legateref02_turn.f
  rw [if_pos ⟨h.1, h.2, by omega⟩]
  rfl
theorem rr_w_6 (x : Int) (h : W32 x) : W32 (rr x 6) := by
  rw [rr_6 x h]
  unfold W32 at h ⊢
  simp only [turnZ, Int.reducePow, Nat.reduceSub]
  omega
theorem turn_7 (x : Int) (h : W32 x) : legateref02_turn.f x 7 = some (rr x 7) := by
  rw [rr_7 x h]
  unfold W32 at h
  unfold legateref02_turn.f
  rw [if_pos ⟨h.1, h.2, by omega⟩]
  rfl
theorem rr_w_7 (x : Int) (h : W32 x) : W32 (rr x 7) := by
  rw [rr_7 x h]
  unfold W32 at h ⊢
  simp only [turnZ, Int.reducePow, Nat.reduceSub]
  omega
theorem turn_11 (x : Int) (h : W32 x) : legateref02_turn.f x 11 = some (rr x 11) := by
  rw [rr_11 x h]
  unfold W32 at h
  unfold legateref02_turn.f
  rw [if_pos ⟨h.1, h.2, by omega⟩]
  rfl
theorem rr_w_11 (x : Int) (h : W32 x) : W32 (rr x 11) := by
  rw [rr_11 x h]
  unfold W32 at h ⊢
  simp only [turnZ, Int.reducePow, Nat.reduceSub]
  omega
theorem turn_13 (x : Int) (h : W32 x) : legateref02_turn.f x 13 = some (rr x 13) := by
  rw [rr_13 x h]
  unfold W32 at h
  unfold legateref02_turn.f
  rw [if_pos ⟨h.1, h.2, by omega⟩]
  rfl
theorem rr_w_13 (x : Int) (h : W32 x) : W32 (rr x 13) := by
  rw [rr_13 x h]
  unfold W32 at h ⊢
  simp only [turnZ, Int.reducePow, Nat.reduceSub]
  omega
theorem turn_17 (x : Int) (h : W32 x) : legateref02_turn.f x 17 = some (rr x 17) := by
  rw [rr_17 x h]
  unfold W32 at h
  unfold legateref02_turn.f
  rw [if_pos ⟨h.1, h.2, by omega⟩]
  rfl
theorem rr_w_17 (x : Int) (h : W32 x) : W32 (rr x 17) := by
  rw [rr_17 x h]
  unfold W32 at h ⊢
  simp only [turnZ, Int.reducePow, Nat.reduceSub]
  omega
theorem turn_18 (x : Int) (h : W32 x) : legateref02_turn.f x 18 = some (rr x 18) := by
  rw [rr_18 x h]
  unfold W32 at h
  unfold legateref02_turn.f
  rw [if_pos ⟨h.1, h.2, by omega⟩]
  rfl
theorem rr_w_18 (x : Int) (h : W32 x) : W32 (rr x 18) := by
  rw [rr_18 x h]
  unfold W32 at h ⊢
  simp only [turnZ, Int.reducePow, Nat.reduceSub]
  omega
theorem turn_19 (x : Int) (h : W32 x) : legateref02_turn.f x 19 = some (rr x 19) := by
  rw [rr_19 x h]
  unfold W32 at h
  unfold legateref02_turn.f
  rw [if_pos ⟨h.1, h.2, by omega⟩]
  rfl
theorem rr_w_19 (x : Int) (h : W32 x) : W32 (rr x 19) := by
  rw [rr_19 x h]
  unfold W32 at h ⊢
  simp only [turnZ, Int.reducePow, Nat.reduceSub]
  omega
theorem turn_22 (x : Int) (h : W32 x) : legateref02_turn.f x 22 = some (rr x 22) := by
  rw [rr_22 x h]
  unfold W32 at h
  unfold legateref02_turn.f
  rw [if_pos ⟨h.1, h.2, by omega⟩]
  rfl
theorem rr_w_22 (x : Int) (h : W32 x) : W32 (rr x 22) := by
  rw [rr_22 x h]
  unfold W32 at h ⊢
  simp only [turnZ, Int.reducePow, Nat.reduceSub]
  omega
theorem turn_25 (x : Int) (h : W32 x) : legateref02_turn.f x 25 = some (rr x 25) := by
  rw [rr_25 x h]
  unfold W32 at h
  unfold legateref02_turn.f
  rw [if_pos ⟨h.1, h.2, by omega⟩]
  rfl
theorem rr_w_25 (x : Int) (h : W32 x) : W32 (rr x 25) := by
  rw [rr_25 x h]
  unfold W32 at h ⊢
  simp only [turnZ, Int.reducePow, Nat.reduceSub]
  omega
end Go.Proofs.YtkgijkfcmbpgpaaDoor.Giv
