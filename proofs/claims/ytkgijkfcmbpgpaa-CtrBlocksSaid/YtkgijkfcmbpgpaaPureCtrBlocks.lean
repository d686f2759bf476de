/- CtrBlocks: each 16 bytes of a stream are a number, encrypted, behind the nonce. -/
import Derived.Test.YtkgijkfcmbpgpaaMCtr
import Derived.Test.YtkgijkfcmbpgpaaMAesT
import Derived.Test.YtkgijkfcmbpgpaaGCtrWorks
import Derived.Test.YtkgijkfcmbpgpaaPAllx9
namespace Go.Proofs.Ytkgijkfcmbpgpaa.Pure
open Go.RowKit Go.Proofs.Ytkgijkfcmbpgpaa.PAll Go.Proofs.YtkgijkfcmbpgpaaW.PrintWords Go.Proofs.YtkgijkfcmbpgpaaW.PrintLast
open Go.Proofs.Ytkgijkfcmbpgpaa.Giv
set_option linter.unusedVariables false
set_option linter.unusedSimpArgs false

theorem works05c : legatelaw05_works.f = some true := rfl
theorem blocks_out (k : Nat) (key nonce : ByteArray) (n : Int) : legatelaw05_CtrBlocks.j0 (k + 1) key nonce n true true = some true := by
  rw [legatelaw05_CtrBlocks.j0, if_pos rfl]
theorem last_block (key nonce : ByteArray) (hn : nonce.size = 12) (m : Nat) : (streamB key nonce (16 * m + 16)).extract (16 * m) (streamB key nonce (16 * m + 16)).size = ctrBlk key nonce m := by
  have hz := streamB_size key nonce hn (16 * m + 16)
  apply ba_ext
  have hd : ((streamB key nonce (16 * m + 16)).extract (16 * m) (streamB key nonce (16 * m + 16)).size).data.toList = (streamB key nonce (16 * m + 16)).data.toList.drop (16 * m) := by
    rw [hz]
    have hl : (streamB key nonce (16 * m + 16)).data.size = 16 * m + 16 := hz
    simp [ByteArray.extract, ByteArray.copySlice, hl]
    rw [List.take_of_length_le]
    rw [List.length_drop, Array.length_toList, hl]
    omega
  rw [hd, streamB_list, show (16 * m + 16 + 15) / 16 = m + 1 from by omega, ctrPre_succ, catL_snoc, List.take_of_length_le (by rw [List.length_append, catL_len key nonce hn, data_length, ctrBlk_size key nonce m hn]; omega), List.drop_append, catL_len key nonce hn, List.drop_of_length_le (by rw [catL_len key nonce hn]; omega), Nat.sub_self, List.drop_zero, List.nil_append]
theorem blocks_in (k : Nat) (key nonce : ByteArray) (m : Nat) (h1 : key.size = 16) (h2 : nonce.size = 12) (hm : m ≤ 200) : legatelaw05_CtrBlocks.j0 (k + 1) key nonce (m : Int) true false = some true := by
  have e1 : wrap64 (16 * (m : Int)) = ((16 * m : Nat) : Int) := by unfold wrap64; omega
  have e2 : wrap64 (((16 * m : Nat) : Int) + 16) = ((16 * m + 16 : Nat) : Int) := by unfold wrap64; omega
  have hz := streamB_size key nonce h2 (16 * m + 16)
  have en : strOfNums [0, 0, 0, (m : Int) % 256] = numB m := by
    unfold numB
    congr 1
    simp only [List.cons.injEq, and_true]
    omega
  have hq := numB_size m
  have hE : aes_Encrypt.f key (nonce ++ numB m) = some (ctrBlk key nonce m) := by
    unfold aes_Encrypt.f
    rw [if_pos ⟨h1, by rw [ByteArray.size_append, hq, h2]⟩]
    rfl
  rw [legatelaw05_CtrBlocks.j0, if_neg (by simp), e1, e2, stream_some key nonce (16 * m + 16) h1 h2 (by omega), Option.bind_some, Option.bind_some, if_pos rfl, if_pos (by omega), if_pos (by omega), if_pos (by omega), en, if_pos (by omega), hE, Option.bind_some, Int.toNat_natCast, last_block key nonce h2 m]
  simp
theorem CtrBlocks : legatelaw05_CtrBlocks.Pure := by
  intro key nonce n _ _ _
  refine ⟨99 + 1, ?_⟩
  generalize 99 = k
  unfold legatelaw05_CtrBlocks.f
  rw [works05c, Option.bind_some, if_pos rfl]
  by_cases h1 : key.size = 16
  · rw [if_pos (by omega)]
    by_cases h2 : nonce.size = 12
    · rw [if_pos (by omega)]
      by_cases h3 : n < 0
      · rw [if_pos h3]; exact blocks_out k key nonce n
      · rw [if_neg h3]
        by_cases h4 : n > 200
        · rw [decide_eq_true h4]; exact blocks_out k key nonce n
        · rw [decide_eq_false h4]
          obtain ⟨m, rfl⟩ : ∃ m : Nat, n = m := ⟨n.toNat, by omega⟩
          exact blocks_in k key nonce m h1 h2 (by omega)
    · rw [if_neg (by omega)]; exact blocks_out k key nonce n
  · rw [if_neg (by omega)]; exact blocks_out k key nonce n

end Go.Proofs.Ytkgijkfcmbpgpaa.Pure
