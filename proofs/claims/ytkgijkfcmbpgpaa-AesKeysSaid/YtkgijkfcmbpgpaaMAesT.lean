/- The seat's own products and swaps, as the statements call them; the fixed examples. -/
import Derived.Test.YtkgijkfcmbpgpaaMAes2
import Derived.Test.YtkgijkfcmbpgpaaGAes
import Derived.OpenShut
namespace Go.Proofs.Ytkgijkfcmbpgpaa.Giv
open Go.RowKit Go.Proofs.YtkgijkfcmbpgpaaW.PrintWords Go.Proofs.YtkgijkfcmbpgpaaW.PrintLast Go.Proofs.YtkgijkfcmbpgpaaW.PrintMore
set_option linter.unusedVariables false
set_option linter.unusedSimpArgs false

theorem times_same_l0 : ∀ (k : Nat) (x b n : Int), PAll.aes_Times.l0 k x b n = PSub.aes_Times.l0 k x b n
  | 0, _, _, _ => by rw [PAll.aes_Times.l0, PSub.aes_Times.l0]
  | k + 1, x, b, n => by
    have e : ∀ y, PAll.aes_twice.f y = PSub.aes_twice.f y := fun _ => rfl
    rw [PAll.aes_Times.l0, PSub.aes_Times.l0, e, PSub.aes_twice.f]
    split
    · rfl
    · split
      · split
        · simp only [Option.bind_some]; exact times_same_l0 k _ _ _
        · simp only [Option.bind_some]; exact times_same_l0 k _ _ _
      · split
        · simp only [Option.bind_some]; exact times_same_l0 k _ _ _
        · simp only [Option.bind_some]; exact times_same_l0 k _ _ _
theorem own_times (k a b : Nat) (hk : 9 ≤ k) (ha : a < 256) (hb : b < 256) : PAll.aes_Times.f k (a : Int) (b : Int) = some (mB a b : Int) := by
  have h : PAll.aes_Times.f k (a : Int) (b : Int) = PSub.aes_Times.f k (a : Int) (b : Int) := times_same_l0 k _ _ _
  rw [h, times_f k a b hk ha hb]
theorem own_swap (a : Nat) (ha : a < 256) : aes_Swap.f (a : Int) = some (sbN a : Int) := by
  unfold aes_Swap.f
  rw [if_pos ⟨by omega, by omega⟩, swaps_box, Int.toNat_natCast, (sb_nat a ha).1]
theorem str_size (l : List Int) : (strOfNums l).size = l.length := by simp [strOfNums, ByteArray.size]
theorem expand_size (key : ByteArray) (h : key.size = 16) : (strOfNums (expandL swapsL key)).size = 176 := by
  rw [str_size]
  unfold expandL
  rw [exS_len, headB_len _ _ (by omega)]
/-- The example of a block. -/
theorem works04_enc : encB ⟨#[0, 1, 2, 3, 4, 5, 6, 7, 8, 9, 10, 11, 12, 13, 14, 15]⟩ ⟨#[0, 17, 34, 51, 68, 85, 102, 119, 136, 153, 170, 187, 204, 221, 238, 255]⟩ = ⟨#[105, 196, 224, 216, 106, 123, 4, 48, 216, 205, 183, 128, 112, 180, 197, 90]⟩ := by
  unfold encB
  rw [swaps_box]
  kernel_rfl
theorem works04 (k : Nat) (hk : 20 ≤ k) : PAll.legatelaw04_works.f k = some true := by
  unfold PAll.legatelaw04_works.f
  have e1 : aes_Encrypt.f ⟨#[0, 1, 2, 3, 4, 5, 6, 7, 8, 9, 10, 11, 12, 13, 14, 15]⟩ ⟨#[0, 17, 34, 51, 68, 85, 102, 119, 136, 153, 170, 187, 204, 221, 238, 255]⟩ = some ⟨#[105, 196, 224, 216, 106, 123, 4, 48, 216, 205, 183, 128, 112, 180, 197, 90]⟩ := by
    unfold aes_Encrypt.f
    rw [if_pos ⟨rfl, rfl⟩, works04_enc]
  have e2 : PAll.aes_Times.f k 87 131 = some 193 := (own_times k 87 131 (by omega) (by omega) (by omega)).trans (by decide +kernel)
  have e3 : aes_Swap.f 0 = some 99 := (own_swap 0 (by omega)).trans (by kernel_rfl)
  have e4 : ∃ x, aes_Expand.f ⟨#[0, 1, 2, 3, 4, 5, 6, 7, 8, 9, 10, 11, 12, 13, 14, 15]⟩ = some x ∧ x.size = 176 := by
    unfold aes_Expand.f
    rw [if_pos (by rfl)]
    exact ⟨_, rfl, expand_size _ rfl⟩
  obtain ⟨x, hx, hs⟩ := e4
  have e5 : (⟨#[105, 196, 224, 216, 106, 123, 4, 48, 216, 205, 183, 128, 112, 180, 197, 90]⟩ : ByteArray).toList = ([105, 196, 224, 216, 106, 123, 4, 48, 216, 205, 183, 128, 112, 180, 197, 90] : List UInt8) := by rw [ByteArray.toList_eq]
  rw [e1]
  simp only [Option.bind_some]
  rw [if_pos e5, e2]
  simp only [Option.bind_some, if_true]
  rw [e3]
  simp only [Option.bind_some, if_true]
  rw [hx]
  simp [hs]
end Go.Proofs.Ytkgijkfcmbpgpaa.Giv
