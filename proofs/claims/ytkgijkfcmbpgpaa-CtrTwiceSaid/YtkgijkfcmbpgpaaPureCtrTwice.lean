/- CtrTwice: what is ciphered twice is as it was. -/
import Derived.Test.YtkgijkfcmbpgpaaMCtr
import Derived.Test.YtkgijkfcmbpgpaaMAesT
import Derived.Test.YtkgijkfcmbpgpaaGCtrWorks
import Derived.Test.YtkgijkfcmbpgpaaPAllx7
namespace Go.Proofs.Ytkgijkfcmbpgpaa.Pure
open Go.RowKit Go.Proofs.Ytkgijkfcmbpgpaa.PAll Go.Proofs.YtkgijkfcmbpgpaaW.PrintWords Go.Proofs.YtkgijkfcmbpgpaaW.PrintLast
open Go.Proofs.Ytkgijkfcmbpgpaa.Giv
set_option linter.unusedVariables false
set_option linter.unusedSimpArgs false

theorem works05a : legatelaw05_works.f = some true := rfl
theorem twice_k (key nonce s : ByteArray) (k : Nat) (hk : 4000 ≤ k) : legatelaw05_CtrTwice.f k key nonce s = some true := by
  unfold legatelaw05_CtrTwice.f
  rw [works05a, Option.bind_some, if_pos rfl]
  by_cases h : (s.size : Int) > 3000
  · rw [if_pos h]
  · rw [if_neg h]
    by_cases hv : key.size = 16 ∧ nonce.size = 12
    · rw [cipher_some key nonce s k (by omega) hv.1 hv.2 (by omega), Option.bind_some, if_pos (by omega), if_pos (by omega), if_pos (by rw [cipB_size]), cipher_some key nonce _ k (by rw [cipB_size]; omega) hv.1 hv.2 (by rw [cipB_size]; omega), Option.bind_some, cip_twice]
      simp
    · have e : ((⟨#[]⟩ : ByteArray).toList == ([] : List UInt8)) = true := by rw [ByteArray.toList_eq]; rfl
      rw [cipher_none key nonce s k (by omega) hv, Option.bind_some]
      by_cases h1 : key.size = 16
      · rw [if_pos (by omega), if_neg (fun h2 => hv ⟨h1, by omega⟩), e]
      · rw [if_neg (by omega), e]
theorem CtrTwice : legatelaw05_CtrTwice.Pure := by
  intro key nonce s _ _ _
  exact ⟨4000, twice_k key nonce s 4000 (by omega)⟩

end Go.Proofs.Ytkgijkfcmbpgpaa.Pure
