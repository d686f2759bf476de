/- Streams and ciphers: what they are. -/
import Derived.Test.YtkgijkfcmbpgpaaMAes4
import Derived.Test.YtkgijkfcmbpgpaaPAllx6
namespace Go.Proofs.Ytkgijkfcmbpgpaa.Giv
open Go.RowKit Go.Proofs.YtkgijkfcmbpgpaaW.PrintWords Go.Proofs.YtkgijkfcmbpgpaaW.PrintLast Go.Proofs.YtkgijkfcmbpgpaaW.PrintMore Go.Proofs.Ytkgijkfcmbpgpaa.PAll
set_option linter.unusedVariables false
set_option linter.unusedSimpArgs false

theorem streamB_list (key nonce : ByteArray) (n : Nat) : (streamB key nonce n).data.toList = (catL (ctrPre key nonce ((n + 15) / 16))).take n := by
  unfold streamB
  simp [ByteArray.extract, ByteArray.copySlice]
theorem streamB_size (key nonce : ByteArray) (hn : nonce.size = 12) (n : Nat) : (streamB key nonce n).size = n := by
  rw [← data_length, streamB_list, List.length_take, catL_len key nonce hn]
  omega
theorem ba_ext {a b : ByteArray} (h : a.data.toList = b.data.toList) : a = b := ByteArray.ext (Array.toList_inj.1 h)
theorem stream_some (key nonce : ByteArray) (n : Nat) (hk : key.size = 16) (hn : nonce.size = 12) (h : n ≤ 1048576) : ctr_Stream.f key nonce (n : Int) = some (streamB key nonce n) := by
  unfold ctr_Stream.f
  by_cases h0 : n = 0
  · subst h0
    rw [if_neg (by omega)]
    have e : streamB key nonce 0 = ⟨#[]⟩ := ba_ext (by rw [streamB_list]; simp)
    rw [e]
  · rw [if_pos ⟨hk, hn, by omega, by omega⟩, Int.toNat_natCast]
theorem stream_none (key nonce : ByteArray) (n : Int) (h : ¬ (key.size = 16 ∧ nonce.size = 12)) : ctr_Stream.f key nonce n = some ⟨#[]⟩ := by
  unfold ctr_Stream.f
  rw [if_neg (fun hh => h ⟨hh.1, hh.2.1⟩)]
/-- A text, each byte of it changed by that of another one. -/
def xoL (s t : ByteArray) : List Int := (List.range s.size).map fun (i : Nat) => Go.bits .xor .u8 (bt s (i : Int)) (bt t (i : Int))
def cipB (key nonce s : ByteArray) : ByteArray := strOfNums (xoL s (streamB key nonce s.size))
theorem xoL_len (s t : ByteArray) : (xoL s t).length = s.size := by simp [xoL]
theorem rep0_len (n : Nat) : (List.replicate n (0 : Int)).length = n := List.length_replicate
theorem xoL_bl (s t : ByteArray) : xoL s t = bl (fun (i : Nat) => Go.bits .xor .u8 (bt s (i : Int)) (bt t (i : Int))) (List.replicate s.size 0) s.size := by
  refine list_ext (by rw [xoL_len, bl_len, rep0_len]) fun i hi => ?_
  rw [xoL_len] at hi
  rw [bl_at _ _ _ _ (by rw [rep0_len]; exact hi), if_pos hi]
  simp [xoL, List.getD_eq_getElem?_getD, hi]
theorem cip_l0 (s t : ByteArray) (ht : t.size = s.size) (hs : s.size ≤ 100000000) : ∀ (d m k : Nat), m + d = s.size → d < k →
    ctr_Cipher.l0 k s t (bl (fun (i : Nat) => Go.bits .xor .u8 (bt s (i : Int)) (bt t (i : Int))) (List.replicate s.size 0) m) (s.size : Int) (m : Int) = some (strOfNums (xoL s t)) := by
  intro d
  induction d with
  | zero =>
    intro m k hm hk
    obtain ⟨k, rfl⟩ : ∃ j, k = j + 1 := ⟨k - 1, by omega⟩
    obtain hm2 : m = s.size := by omega
    rw [ctr_Cipher.l0, if_neg (by omega), xoL_bl, hm2]
  | succ d ih =>
    intro m k hm hk
    obtain ⟨k, rfl⟩ : ∃ j, k = j + 1 := ⟨k - 1, by omega⟩
    have e : wrap64 ((m : Int) + 1) = ((m + 1 : Nat) : Int) := by unfold wrap64; omega
    have hr := rep0_len s.size
    rw [ctr_Cipher.l0, e, if_pos (by omega), if_pos (by omega), if_pos (by omega), if_pos (by omega), if_pos (by rw [bl_len]; omega), Int.toNat_natCast, bl_set (fun (i : Nat) => Go.bits .xor .u8 (bt s (i : Int)) (bt t (i : Int)))]
    exact ih (m + 1) k (by omega) (by omega)
theorem cipher_some (key nonce s : ByteArray) (k : Nat) (hk : s.size < k) (h1 : key.size = 16) (h2 : nonce.size = 12) (hs : s.size ≤ 1048576) : ctr_Cipher.f k key nonce s = some (cipB key nonce s) := by
  have ht := streamB_size key nonce h2 s.size
  unfold ctr_Cipher.f
  rw [stream_some key nonce s.size h1 h2 hs, Option.bind_some, if_pos (by omega), if_pos (by omega), if_pos (by omega), Int.toNat_natCast]
  have := cip_l0 s (streamB key nonce s.size) ht (by omega) s.size 0 k (by omega) hk
  rw [bl_zero] at this
  exact this
theorem cipher_none (key nonce s : ByteArray) (k : Nat) (hk : 0 < k) (h : ¬ (key.size = 16 ∧ nonce.size = 12)) : ctr_Cipher.f k key nonce s = some ⟨#[]⟩ := by
  unfold ctr_Cipher.f
  rw [stream_none key nonce _ h, Option.bind_some]
  by_cases h0 : s.size = 0
  · obtain ⟨k, rfl⟩ : ∃ j, k = j + 1 := ⟨k - 1, by omega⟩
    rw [h0, if_pos (by rfl), if_pos (by omega), if_pos (by omega), ctr_Cipher.l0, if_neg (by omega)]
    rfl
  · rw [if_neg (by show ¬ ((0 : Nat) : Int) = _; omega)]
end Go.Proofs.Ytkgijkfcmbpgpaa.Giv
