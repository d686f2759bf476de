/- Streams and ciphers: what they are. -/
import Derived.Test.YtkgijkfcmbpgpaaMAes4
import Derived.Test.YtkgijkfcmbpgpaaPAllx6
namespace Go.Proofs.Ytkgijkfcmbpgpaa.Giv
open Go.RowKit Go.Proofs.YtkgijkfcmbpgpaaW.PrintWords Go.Proofs.YtkgijkfcmbpgpaaW.PrintLast Go.Proofs.YtkgijkfcmbpgpaaW.PrintMore Go.Proofs.Ytkgijkfcmbpgpaa.PAll
set_option linter.unusedVariables false
set_option linter.unusedSimpArgs false

theorem streamB_list (key nonce : ByteArray) (n : Nat) : (streamB key nonce n).data.toList = (catL (ctrPre key nonce ((n + 15) / 16))).take n := by
  unfold streamB
  simp [ByteArray.extract, ByteArray.copySlice]
theorem streamB_size (key nonce : ByteArray) (hn : nonce.size = 12) (n : Nat) : (streamB key nonce n).size = n := by
  rw [← data_length, streamB_list, List.length_take, catL_len key nonce hn]
  omega
theorem catL_pre (key nonce : ByteArray) (hn : nonce.size = 12) (a : Nat) : ∀ b, (catL (ctrPre key nonce (a + b))).take (16 * a) = catL (ctrPre key nonce a)
  | 0 => by
    rw [Nat.add_zero]
    exact List.take_of_length_le (by rw [catL_len key nonce hn]; omega)
  | b + 1 => by
    rw [show a + (b + 1) = (a + b) + 1 from by omega, ctrPre_succ, catL_snoc, List.take_append_of_le_length (by rw [catL_len key nonce hn]; omega)]
    exact catL_pre key nonce hn a b
theorem ba_ext {a b : ByteArray} (h : a.data.toList = b.data.toList) : a = b := ByteArray.ext (Array.toList_inj.1 h)
theorem extract_list (b : ByteArray) (m : Nat) : (b.extract 0 m).data.toList = b.data.toList.take m := by
  simp [ByteArray.extract, ByteArray.copySlice]
/-- A shorter stream is the beginning of a longer one. -/
theorem stream_begins (key nonce : ByteArray) (hn : nonce.size = 12) (m n : Nat) (h : m ≤ n) : streamB key nonce m = (streamB key nonce n).extract 0 m := by
  apply ba_ext
  rw [extract_list, streamB_list, streamB_list, List.take_take, Nat.min_eq_left h]
  have e := catL_pre key nonce hn ((m + 15) / 16) ((n + 15) / 16 - (m + 15) / 16)
  rw [show (m + 15) / 16 + ((n + 15) / 16 - (m + 15) / 16) = (n + 15) / 16 from by omega] at e
  rw [← e, List.take_take, Nat.min_eq_left (by omega)]
theorem stream_some (key nonce : ByteArray) (n : Nat) (hk : key.size = 16) (hn : nonce.size = 12) (h : n ≤ 1048576) : ctr_Stream.f key nonce (n : Int) = some (streamB key nonce n) := by
  unfold ctr_Stream.f
  by_cases h0 : n = 0
  · subst h0
    rw [if_neg (by omega)]
    have e : streamB key nonce 0 = ⟨#[]⟩ := ba_ext (by rw [streamB_list]; simp)
    rw [e]
  · rw [if_pos ⟨hk, hn, by omega, by omega⟩, Int.toNat_natCast]
theorem stream_none (key nonce : ByteArray) (n : Int) (h : ¬ (key.size = 16 ∧ nonce.size = 12)) : ctr_Stream.f key nonce n = some ⟨#[]⟩ := by
  unfold ctr_Stream.f
  rw [if_neg (fun hh => h ⟨hh.1, hh.2.1⟩)]
/-- A text, each byte of it changed by that of another one. -/
def xoL (s t : ByteArray) : List Int := (List.range s.size).map fun (i : Nat) => Go.bits .xor .u8 (bt s (i : Int)) (bt t (i : Int))
def cipB (key nonce s : ByteArray) : ByteArray := strOfNums (xoL s (streamB key nonce s.size))
theorem xoL_len (s t : ByteArray) : (xoL s t).length = s.size := by simp [xoL]
theorem cipB_size (key nonce s : ByteArray) : (cipB key nonce s).size = s.size := by unfold cipB; rw [strN_size, xoL_len]
theorem rep0_len (n : Nat) : (List.replicate n (0 : Int)).length = n := List.length_replicate
theorem xoL_bl (s t : ByteArray) : xoL s t = bl (fun (i : Nat) => Go.bits .xor .u8 (bt s (i : Int)) (bt t (i : Int))) (List.replicate s.size 0) s.size := by
  refine list_ext (by rw [xoL_len, bl_len, rep0_len]) fun i hi => ?_
  rw [xoL_len] at hi
  rw [bl_at _ _ _ _ (by rw [rep0_len]; exact hi), if_pos hi]
  simp [xoL, List.getD_eq_getElem?_getD, hi]
theorem cip_l0 (s t : ByteArray) (ht : t.size = s.size) (hs : s.size ≤ 100000000) : ∀ (d m k : Nat), m + d = s.size → d < k →
    ctr_Cipher.l0 k s t (bl (fun (i : Nat) => Go.bits .xor .u8 (bt s (i : Int)) (bt t (i : Int))) (List.replicate s.size 0) m) (s.size : Int) (m : Int) = some (strOfNums (xoL s t)) := by
  intro d
  induction d with
  | zero =>
    intro m k hm hk
    obtain ⟨k, rfl⟩ : ∃ j, k = j + 1 := ⟨k - 1, by omega⟩
    obtain hm2 : m = s.size := by omega
    rw [ctr_Cipher.l0, if_neg (by omega), xoL_bl, hm2]
  | succ d ih =>
    intro m k hm hk
    obtain ⟨k, rfl⟩ : ∃ j, k = j + 1 := ⟨k - 1, by omega⟩
    have e : wrap64 ((m : Int) + 1) = ((m + 1 : Nat) : Int) := by unfold wrap64; omega
    have hr := rep0_len s.size
    rw [ctr_Cipher.l0, e, if_pos (by omega), if_pos (by omega), if_pos (by omega), if_pos (by omega), if_pos (by rw [bl_len]; omega), Int.toNat_natCast, bl_set (fun (i : Nat) => Go.bits .xor .u8 (bt s (i : Int)) (bt t (i : Int)))]
    exact ih (m + 1) k (by omega) (by omega)
theorem cipher_some (key nonce s : ByteArray) (k : Nat) (hk : s.size < k) (h1 : key.size = 16) (h2 : nonce.size = 12) (hs : s.size ≤ 1048576) : ctr_Cipher.f k key nonce s = some (cipB key nonce s) := by
  have ht := streamB_size key nonce h2 s.size
  unfold ctr_Cipher.f
  rw [stream_some key nonce s.size h1 h2 hs, Option.bind_some, if_pos (by omega), if_pos (by omega), if_pos (by omega), Int.toNat_natCast]
  have := cip_l0 s (streamB key nonce s.size) ht (by omega) s.size 0 k (by omega) hk
  rw [bl_zero] at this
  exact this
theorem cipher_none (key nonce s : ByteArray) (k : Nat) (hk : 0 < k) (h : ¬ (key.size = 16 ∧ nonce.size = 12)) : ctr_Cipher.f k key nonce s = some ⟨#[]⟩ := by
  unfold ctr_Cipher.f
  rw [stream_none key nonce _ h, Option.bind_some]
  by_cases h0 : s.size = 0
  · obtain ⟨k, rfl⟩ : ∃ j, k = j + 1 := ⟨k - 1, by omega⟩
    rw [h0, if_pos (by rfl), if_pos (by omega), if_pos (by omega), ctr_Cipher.l0, if_neg (by omega)]
    rfl
  · rw [if_neg (by show ¬ ((0 : Nat) : Int) = _; omega)]
theorem bt_u8' (s : ByteArray) (i : Int) : U8 (bt s i) := by
  unfold bt U8
  split
  · have := (s[i.toNat]).toNat_lt; omega
  · omega
theorem xoL_u8 (s t : ByteArray) : U8s (xoL s t) := by
  intro x hx
  obtain ⟨i, _, rfl⟩ := List.mem_map.1 hx
  exact bits_u8 _ _ _ (.inr (.inr rfl))
theorem cip_at (key nonce s : ByteArray) (i : Nat) (hi : i < s.size) : bt (cipB key nonce s) (i : Int) = Go.bits .xor .u8 (bt s (i : Int)) (bt (streamB key nonce s.size) (i : Int)) := by
  unfold cipB
  rw [strN_at _ (xoL_u8 _ _) i (by rw [xoL_len]; exact hi)]
  simp [xoL, List.getD_eq_getElem?_getD, hi]
theorem bt_same {a b : ByteArray} (hs : a.size = b.size) (h : ∀ j : Nat, j < a.size → bt a (j : Int) = bt b (j : Int)) : a = b := by
  apply ByteArray.ext
  apply Array.ext
  · exact hs
  · intro i h1 h2
    have e := h i h1
    have q : ∀ (s : ByteArray) (hh : i < s.size), bt s (i : Int) = ((s[i]'hh).toNat : Int) := fun s hh => by
      unfold bt
      rw [dif_pos (by simpa using hh)]
      simp
    rw [q a h1, q b h2] at e
    have e2 : (a[i]'h1).toNat = (b[i]'h2).toNat := by exact_mod_cast e
    exact UInt8.toNat_inj.1 e2
/-- What is ciphered twice is as it was. -/
theorem cip_twice (key nonce s : ByteArray) : cipB key nonce (cipB key nonce s) = s := by
  have hz := cipB_size key nonce s
  refine bt_same (by rw [cipB_size, hz]) fun j hj => ?_
  rw [cipB_size, hz] at hj
  rw [cip_at _ _ _ j (by rw [hz]; exact hj), hz, cip_at _ _ _ j hj]
  obtain ⟨a, ha, ea⟩ := nat_of_u8 (bt_u8' s (j : Int))
  obtain ⟨b, hb, eb⟩ := nat_of_u8 (bt_u8' (streamB key nonce s.size) (j : Int))
  rw [ea, eb, u8_xor_nat a b ha hb, u8_xor_nat _ b (xor_lt ha hb) hb, Nat.xor_assoc, Nat.xor_self, Nat.xor_zero]
theorem bt_ext0 (s : ByteArray) (m j : Nat) (hm : m ≤ s.size) (hj : j < m) : bt (s.extract 0 m) (j : Int) = bt s (j : Int) := by
  unfold bt
  have e1 : (j : Int).toNat < (s.extract 0 m).size := by simp; omega
  have e2 : (j : Int).toNat < s.size := by omega
  rw [dif_pos e1, dif_pos e2]
  simp only [Int.toNat_natCast]
  rw [ByteArray.getElem_extract]
  simp
/-- What is ciphered begins as its beginning does. -/
theorem cip_begins (key nonce s : ByteArray) (hn : nonce.size = 12) (m : Nat) (hm : m ≤ s.size) : cipB key nonce (s.extract 0 m) = (cipB key nonce s).extract 0 m := by
  have hz : (s.extract 0 m).size = m := by simp; omega
  have hz2 : ((cipB key nonce s).extract 0 m).size = m := by simp [cipB_size]; omega
  refine bt_same (by rw [cipB_size, hz, hz2]) fun j hj => ?_
  rw [cipB_size, hz] at hj
  rw [cip_at _ _ _ j (by rw [hz]; exact hj), hz, bt_ext0 s m j hm hj, bt_ext0 _ m j (by rw [cipB_size]; exact hm) hj, cip_at _ _ _ j (by omega), stream_begins key nonce hn m s.size hm, bt_ext0 _ m j (by rw [streamB_size key nonce hn]; exact hm) hj]
end Go.Proofs.Ytkgijkfcmbpgpaa.Giv
