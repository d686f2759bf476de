/- AesEncrypts: any block with any key, and all its keys, is just what the document says. -/
import Derived.Test.YtkgijkfcmbpgpaaMAesT
import Derived.Test.YtkgijkfcmbpgpaaMAes4
import Derived.Test.YtkgijkfcmbpgpaaPAllx5
namespace Go.Proofs.Ytkgijkfcmbpgpaa.Pure
open Go.RowKit Go.Proofs.Ytkgijkfcmbpgpaa.PAll Go.Proofs.YtkgijkfcmbpgpaaW.PrintWords Go.Proofs.YtkgijkfcmbpgpaaW.PrintLast
open Go.Proofs.Ytkgijkfcmbpgpaa.Giv
set_option linter.unusedVariables false
set_option linter.unusedSimpArgs false

theorem enc_k (a b : ByteArray) (k : Nat) (hk : 2000 ≤ k) : legatelaw04_AesEncrypts.f k a b = some true := by
  unfold legatelaw04_AesEncrypts.f
  obtain ⟨e, he⟩ : ∃ e, aes_Encrypt.f a b = some e := by
    unfold aes_Encrypt.f
    split
    · exact ⟨_, rfl⟩
    · exact ⟨_, rfl⟩
  obtain ⟨x, hx, hx2⟩ : ∃ x, aes_Expand.f a = some x ∧ legateref04_Expand.f k sboxL a = some x := by
    rw [ref_expand sboxL sboxL_len a k (by omega)]
    unfold aes_Expand.f
    rw [swaps_box]
    by_cases h : a.size = 16
    · rw [if_pos h, if_pos h]; exact ⟨_, rfl, rfl⟩
    · rw [if_neg h, if_neg h]; exact ⟨_, rfl, rfl⟩
  rw [works04 k (by omega), Option.bind_some, if_pos rfl, ref_table k (by omega), Option.bind_some, he, Option.bind_some, ref_enc a b k hk, he, Option.bind_some, if_pos rfl, hx, Option.bind_some, hx2, Option.bind_some]
  simp
theorem AesEncrypts : legatelaw04_AesEncrypts.Pure := by
  intro a b _ _
  exact ⟨2000, enc_k a b 2000 (by omega)⟩

end Go.Proofs.Ytkgijkfcmbpgpaa.Pure
