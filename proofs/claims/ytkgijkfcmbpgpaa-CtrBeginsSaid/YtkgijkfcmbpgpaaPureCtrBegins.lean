/- CtrBegins: a shorter stream is the beginning of a longer one; what is ciphered begins as its beginning does. -/
import Derived.Test.YtkgijkfcmbpgpaaMCtr
import Derived.Test.YtkgijkfcmbpgpaaMAesT
import Derived.Test.YtkgijkfcmbpgpaaGCtrWorks
import Derived.Test.YtkgijkfcmbpgpaaPAllx8
namespace Go.Proofs.Ytkgijkfcmbpgpaa.Pure
open Go.RowKit Go.Proofs.Ytkgijkfcmbpgpaa.PAll Go.Proofs.YtkgijkfcmbpgpaaW.PrintWords Go.Proofs.YtkgijkfcmbpgpaaW.PrintLast
open Go.Proofs.Ytkgijkfcmbpgpaa.Giv
set_option linter.unusedVariables false
set_option linter.unusedSimpArgs false

theorem works05b : legatelaw05_works.f = some true := rfl
theorem begins_out (k : Nat) (key nonce s : ByteArray) (n : Int) : legatelaw05_CtrBegins.j0 (k + 1) key nonce s n true true = some true := by
  rw [legatelaw05_CtrBegins.j0, if_pos rfl]
theorem begins_in (k : Nat) (hk : 4000 ≤ k) (key nonce s : ByteArray) (n : Nat) (h1 : key.size = 16) (h2 : nonce.size = 12) (hs : s.size ≤ 3000) (hn : n ≤ s.size) : legatelaw05_CtrBegins.j0 (k + 1) key nonce s (n : Int) true false = some true := by
  have hz : (s.extract 0 n).size = n := by simp; omega
  have z1 := streamB_size key nonce h2 s.size
  have z2 := cipB_size key nonce s
  rw [legatelaw05_CtrBegins.j0, if_neg (by simp), stream_some key nonce n h1 h2 (by omega), Option.bind_some, stream_some key nonce s.size h1 h2 (by omega), Option.bind_some, cipher_some key nonce s k (by omega) h1 h2 (by omega), Option.bind_some, if_pos (by omega), if_pos (by omega), Int.toNat_natCast, cipher_some key nonce _ k (by omega) h1 h2 (by omega), Option.bind_some, if_pos rfl, if_pos (by omega), if_pos (by omega), if_pos (by rw [stream_begins key nonce h2 n s.size hn]), if_pos (by omega), if_pos (by omega), cip_begins key nonce s h2 n hn]
  simp
theorem CtrBegins : legatelaw05_CtrBegins.Pure := by
  intro key nonce s n _ _ _ _
  refine ⟨4999 + 1, ?_⟩
  generalize hk : 4999 = k
  unfold legatelaw05_CtrBegins.f
  rw [works05b, Option.bind_some, if_pos rfl]
  by_cases h1 : (s.size : Int) > 3000
  · rw [if_pos h1]; exact begins_out k key nonce s n
  rw [if_neg h1]
  by_cases h2 : n < 0
  · rw [if_pos h2]; exact begins_out k key nonce s n
  rw [if_neg h2]
  by_cases h3 : n > (s.size : Int)
  · rw [if_pos h3]; exact begins_out k key nonce s n
  rw [if_neg h3]
  by_cases h4 : key.size = 16
  · rw [if_pos (by omega)]
    by_cases h5 : nonce.size = 12
    · have e : ((nonce.size : Int) != 12) = false := by simp [h5]
      obtain ⟨m, rfl⟩ : ∃ m : Nat, n = m := ⟨n.toNat, by omega⟩
      rw [e]
      exact begins_in k (by omega) key nonce s m h4 h5 (by omega) (by omega)
    · have e : ((nonce.size : Int) != 12) = true := by rw [bne_iff_ne]; omega
      rw [e]; exact begins_out k key nonce s n
  · rw [if_neg (by omega)]; exact begins_out k key nonce s n

end Go.Proofs.Ytkgijkfcmbpgpaa.Pure
