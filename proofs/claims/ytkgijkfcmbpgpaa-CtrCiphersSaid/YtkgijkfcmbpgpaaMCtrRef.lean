/- The reference's streams and ciphers: the same as the program's. -/
import Derived.Test.YtkgijkfcmbpgpaaMCtr
import Derived.Test.YtkgijkfcmbpgpaaPAllx7
namespace Go.Proofs.Ytkgijkfcmbpgpaa.Giv
open Go.RowKit Go.Proofs.YtkgijkfcmbpgpaaW.PrintWords Go.Proofs.YtkgijkfcmbpgpaaW.PrintLast Go.Proofs.YtkgijkfcmbpgpaaW.PrintMore Go.Proofs.Ytkgijkfcmbpgpaa.PAll
set_option linter.unusedVariables false
set_option linter.unusedSimpArgs false

/-- So many blocks of a stream. -/
def blksB (key nonce : ByteArray) (m : Nat) : ByteArray := ⟨(catL (ctrPre key nonce m)).toArray⟩
theorem blksB_size (key nonce : ByteArray) (hn : nonce.size = 12) (m : Nat) : (blksB key nonce m).size = 16 * m := by
  rw [← data_length]
  show (catL (ctrPre key nonce m)).toArray.toList.length = _
  rw [List.toList_toArray, catL_len key nonce hn]
theorem blksB_succ (key nonce : ByteArray) (m : Nat) : blksB key nonce m ++ ctrBlk key nonce m = blksB key nonce (m + 1) := by
  apply ba_ext
  rw [ByteArray.data_append, Array.toList_append]
  show (catL (ctrPre key nonce m)).toArray.toList ++ _ = (catL (ctrPre key nonce (m + 1))).toArray.toList
  rw [List.toList_toArray, List.toList_toArray, ctrPre_succ, catL_snoc]
theorem ref_stream_l0 (key nonce : ByteArray) (h1 : key.size = 16) (h2 : nonce.size = 12) (n : Nat) (hn : n ≤ 5000) : ∀ (d m k : Nat), m + d = (n + 15) / 16 → d + 2000 < k →
    legateref05_Stream.l0 k sboxL key nonce (n : Int) (blksB key nonce m) (m : Int) = some (streamB key nonce n) := by
  intro d
  induction d with
  | zero =>
    intro m k hm hk
    obtain ⟨k, rfl⟩ : ∃ j, k = j + 1 := ⟨k - 1, by omega⟩
    have hz := blksB_size key nonce h2 m
    rw [legateref05_Stream.l0, if_neg (by omega), if_pos (by omega), if_pos (by omega), Int.toNat_natCast]
    unfold streamB blksB
    rw [show m = (n + 15) / 16 from by omega]
  | succ d ih =>
    intro m k hm hk
    obtain ⟨k, rfl⟩ : ∃ j, k = j + 1 := ⟨k - 1, by omega⟩
    have hz := blksB_size key nonce h2 m
    have e : wrap64 ((m : Int) + 1) = ((m + 1 : Nat) : Int) := by unfold wrap64; omega
    have en : ([(wrap64 (Int.tdiv (m : Int) 16777216)) % 256, (wrap64 (Int.tdiv (m : Int) 65536)) % 256, (wrap64 (Int.tdiv (m : Int) 256)) % 256, ((m : Int)) % 256] : List Int) = [(m : Int) / 16777216 % 256, (m : Int) / 65536 % 256, (m : Int) / 256 % 256, (m : Int) % 256] := by
      rw [Int.tdiv_eq_ediv_of_nonneg (by omega), Int.tdiv_eq_ediv_of_nonneg (by omega), Int.tdiv_eq_ediv_of_nonneg (by omega), w64I (x := (m : Int) / 16777216) (by omega) (by omega), w64I (x := (m : Int) / 65536) (by omega) (by omega), w64I (x := (m : Int) / 256) (by omega) (by omega)]
    have hq := numB_size m
    have hb := ctrBlk_size key nonce m h2
    have hE : aes_Encrypt.f key (nonce ++ numB m) = some (ctrBlk key nonce m) := by
      unfold aes_Encrypt.f
      rw [if_pos ⟨h1, by rw [ByteArray.size_append, hq, h2]⟩]
      rfl
    rw [legateref05_Stream.l0, if_pos (by omega), en, Option.bind_some]
    have hN : strOfNums [(m : Int) / 16777216 % 256, (m : Int) / 65536 % 256, (m : Int) / 256 % 256, (m : Int) % 256] = numB m := rfl
    rw [hN, if_pos (by omega), ref_enc _ _ k (by omega), hE, Option.bind_some, if_pos (by omega), blksB_succ, e]
    exact ih (m + 1) k (by omega) (by omega)
theorem ref_stream (key nonce : ByteArray) (n : Int) (hn : n ≤ 5000 ∨ 1048576 < n) (k : Nat) (hk : 3000 ≤ k) : legateref05_Stream.f k sboxL key nonce n = ctr_Stream.f key nonce n := by
  have out : legateref05_Stream.j0 k sboxL key nonce n true = some ⟨#[]⟩ := by
    obtain ⟨k, rfl⟩ : ∃ j, k = j + 1 := ⟨k - 1, by omega⟩
    rw [legateref05_Stream.j0, if_pos rfl]
  unfold legateref05_Stream.f
  by_cases h1 : key.size = 16
  · rw [if_pos (by omega)]
    by_cases h2 : nonce.size = 12
    · rw [if_pos (by omega)]
      by_cases h3 : n < 0
      · rw [if_pos h3, out]
        unfold ctr_Stream.f
        rw [if_neg (by omega)]
      · rw [if_neg h3]
        by_cases h4 : n > 1048576
        · rw [decide_eq_true h4, out]
          unfold ctr_Stream.f
          rw [if_neg (by omega)]
        · obtain ⟨m, rfl⟩ : ∃ m : Nat, n = m := ⟨n.toNat, by omega⟩
          rw [decide_eq_false h4, stream_some key nonce m h1 h2 (by omega)]
          obtain ⟨k, rfl⟩ : ∃ j, k = j + 1 := ⟨k - 1, by omega⟩
          rw [legateref05_Stream.j0, if_neg (by simp)]
          have e0 : (⟨#[]⟩ : ByteArray) = blksB key nonce 0 := rfl
          rw [e0]
          exact ref_stream_l0 key nonce h1 h2 m (by omega) ((m + 15) / 16) 0 k (by omega) (by omega)
    · rw [if_neg (by omega), out, stream_none key nonce n (fun h => h2 h.2)]
  · rw [if_neg (by omega), out, stream_none key nonce n (fun h => h1 h.1)]
theorem ref_cip_l0 (s t : ByteArray) (ht : t.size = s.size) (hs : s.size ≤ 100000000) : ∀ (d m k : Nat), m + d = s.size → d < k →
    legateref05_Cipher.l0 k s t (bl (fun (i : Nat) => Go.bits .xor .u8 (bt s (i : Int)) (bt t (i : Int))) (List.replicate s.size 0) m) (m : Int) = some (strOfNums (xoL s t)) := by
  intro d
  induction d with
  | zero =>
    intro m k hm hk
    obtain ⟨k, rfl⟩ : ∃ j, k = j + 1 := ⟨k - 1, by omega⟩
    obtain hm2 : m = s.size := by omega
    rw [legateref05_Cipher.l0, if_neg (by omega), xoL_bl, hm2]
  | succ d ih =>
    intro m k hm hk
    obtain ⟨k, rfl⟩ : ∃ j, k = j + 1 := ⟨k - 1, by omega⟩
    have e : wrap64 ((m : Int) + 1) = ((m + 1 : Nat) : Int) := by unfold wrap64; omega
    have hr := rep0_len s.size
    rw [legateref05_Cipher.l0, e, if_pos (by omega), if_pos (by omega), if_pos (by omega), if_pos (by rw [bl_len]; omega), Int.toNat_natCast, bl_set (fun (i : Nat) => Go.bits .xor .u8 (bt s (i : Int)) (bt t (i : Int)))]
    exact ih (m + 1) k (by omega) (by omega)
/-- The reference's cipher is the program's. -/
theorem ref_cipher (key nonce s : ByteArray) (hs : s.size ≤ 5000) (k : Nat) (hk : 10000 ≤ k) : legateref05_Cipher.f k sboxL key nonce s = ctr_Cipher.f k key nonce s := by
  unfold legateref05_Cipher.f
  rw [ref_stream key nonce _ (.inl (by omega)) k (by omega)]
  by_cases hv : key.size = 16 ∧ nonce.size = 12
  · have ht := streamB_size key nonce hv.2 s.size
    rw [stream_some key nonce s.size hv.1 hv.2 (by omega), Option.bind_some, if_pos (by omega), if_pos (by omega), if_pos (by omega), Int.toNat_natCast, cipher_some key nonce s k (by omega) hv.1 hv.2 (by omega)]
    have := ref_cip_l0 s (streamB key nonce s.size) ht (by omega) s.size 0 k (by omega) (by omega)
    rw [bl_zero] at this
    exact this
  · rw [stream_none key nonce _ hv, Option.bind_some, cipher_none key nonce s k (by omega) hv]
    by_cases h0 : s.size = 0
    · obtain ⟨k, rfl⟩ : ∃ j, k = j + 1 := ⟨k - 1, by omega⟩
      rw [h0, if_pos (by rfl), if_pos (by omega), if_pos (by omega), legateref05_Cipher.l0, if_neg (by omega)]
      rfl
    · rw [if_neg (by show ¬ ((0 : Nat) : Int) = _; omega)]
end Go.Proofs.Ytkgijkfcmbpgpaa.Giv
