/- CtrCiphers: any stream, and any text that is ciphered, is just what the document says. -/
import Derived.Test.YtkgijkfcmbpgpaaMCtrRef
import Derived.Test.YtkgijkfcmbpgpaaMAesT
import Derived.Test.YtkgijkfcmbpgpaaGCtrWorks
import Derived.Test.YtkgijkfcmbpgpaaPAllx7
namespace Go.Proofs.Ytkgijkfcmbpgpaa.Pure
open Go.RowKit Go.Proofs.Ytkgijkfcmbpgpaa.PAll Go.Proofs.YtkgijkfcmbpgpaaW.PrintWords Go.Proofs.YtkgijkfcmbpgpaaW.PrintLast
open Go.Proofs.Ytkgijkfcmbpgpaa.Giv
set_option linter.unusedVariables false
set_option linter.unusedSimpArgs false

theorem works05d : legatelaw05_works.f = some true := rfl
theorem ciphers_out (k : Nat) (key nonce s : ByteArray) (n : Int) : legatelaw05_CtrCiphers.j0 (k + 1) key nonce s n true true = some true := by
  rw [legatelaw05_CtrCiphers.j0, if_pos rfl]
theorem ciphers_in (k : Nat) (hk : 10000 ≤ k) (key nonce s : ByteArray) (n : Int) (hs : s.size ≤ 300) (hn : n ≤ 300 ∨ 1048576 < n) : legatelaw05_CtrCiphers.j0 (k + 1) key nonce s n true false = some true := by
  obtain ⟨c, hc⟩ : ∃ c, ctr_Cipher.f k key nonce s = some c := by
    by_cases hv : key.size = 16 ∧ nonce.size = 12
    · exact ⟨_, cipher_some key nonce s k (by omega) hv.1 hv.2 (by omega)⟩
    · exact ⟨_, cipher_none key nonce s k (by omega) hv⟩
  obtain ⟨t, ht⟩ : ∃ t, ctr_Stream.f key nonce n = some t := by
    unfold ctr_Stream.f
    split
    · exact ⟨_, rfl⟩
    · exact ⟨_, rfl⟩
  rw [legatelaw05_CtrCiphers.j0, if_neg (by simp), ref_table k (by omega), Option.bind_some, if_pos rfl, ref_cipher key nonce s (by omega) k hk, hc, Option.bind_some, Option.bind_some, if_pos rfl, ref_stream key nonce n (by omega) k (by omega), ht, Option.bind_some, Option.bind_some]
  simp
theorem CtrCiphers : legatelaw05_CtrCiphers.Pure := by
  intro key nonce s n _ _ _ _
  refine ⟨10999 + 1, ?_⟩
  generalize hk : 10999 = k
  unfold legatelaw05_CtrCiphers.f
  rw [works05d, Option.bind_some, if_pos rfl]
  by_cases h1 : (s.size : Int) > 300
  · rw [if_pos h1]; exact ciphers_out k key nonce s n
  rw [if_neg h1]
  by_cases h2 : n > 300
  · rw [if_pos h2]
    by_cases h3 : n ≤ 1048576
    · rw [decide_eq_true h3]; exact ciphers_out k key nonce s n
    · rw [decide_eq_false h3]; exact ciphers_in k (by omega) key nonce s n (by omega) (by omega)
  · rw [if_neg h2]; exact ciphers_in k (by omega) key nonce s n (by omega) (by omega)

end Go.Proofs.Ytkgijkfcmbpgpaa.Pure
