/- AesField: products are a field's. -/
import Derived.Test.YtkgijkfcmbpgpaaMAesT
import Derived.Test.YtkgijkfcmbpgpaaPAllx2
namespace Go.Proofs.Ytkgijkfcmbpgpaa.Pure
open Go.RowKit Go.Proofs.Ytkgijkfcmbpgpaa.PAll Go.Proofs.YtkgijkfcmbpgpaaW.PrintWords Go.Proofs.YtkgijkfcmbpgpaaW.PrintLast
open Go.Proofs.Ytkgijkfcmbpgpaa.Giv
set_option linter.unusedVariables false
set_option linter.unusedSimpArgs false

theorem field_j0 (a b c k : Nat) (hk : 1000 ≤ k) (ha : a < 256) (hb : b < 256) (hc : c < 256) : legatelaw04_AesField.j0 (k + 1) (a : Int) (b : Int) (c : Int) true true = some true := by
  rw [legatelaw04_AesField.j0, u8_xor_nat b c hb hc, own_times k a (b ^^^ c) (by omega) ha (xor_lt hb hc), own_times k a b (by omega) ha hb, own_times k a c (by omega) ha hc]
  simp only [Option.bind_some]
  have e2 : aes_Times.f k (a : Int) 1 = some (a : Int) := by
    have := own_times k a 1 (by omega) ha (by omega)
    rw [mB_one] at this
    exact this
  rw [u8_xor_nat _ _ (mB_lt a b ha) (mB_lt a c ha), ← mB_xor, if_pos rfl, e2]
  simp only [Option.bind_some, if_true]
  rw [own_swap a ha, own_swap b hb]
  simp only [Option.bind_some]
  have hs : (((sbN a : Int) == (sbN b : Int)) == ((a : Int) == (b : Int))) = true := by
    by_cases h : a = b
    · subst h; simp
    · have h2 : sbN a ≠ sbN b := fun e => h (sb_inj ha hb e)
      have h3 : ((sbN a : Int) == (sbN b : Int)) = false := by rw [beq_eq_false_iff_ne]; omega
      have h4 : ((a : Int) == (b : Int)) = false := by rw [beq_eq_false_iff_ne]; omega
      rw [h3, h4]
      rfl
  by_cases h0 : (a : Int) = 0
  · have h1 : a = 0 := by omega
    have h5 : ((((mB a b : Nat) : Int) == 0) == true) = true := by rw [h1, mB_zero_l]; rfl
    rw [if_pos h0, if_pos h5, hs]
  · have h5 : ((((mB a b : Nat) : Int) == 0) == ((b : Int) == 0)) = true := by
      by_cases hb0 : b = 0
      · rw [hb0, mB_zero_r]; rfl
      · have h6 : mB a b ≠ 0 := fun e => by
          rcases mB_nonzero a b ha hb e with h | h
          · omega
          · exact hb0 h
        have h3 : ((mB a b : Int) == 0) = false := by rw [beq_eq_false_iff_ne]; omega
        have h4 : ((b : Int) == 0) = false := by rw [beq_eq_false_iff_ne]; omega
        rw [h3, h4]
        rfl
    rw [if_neg h0, if_pos h5, hs]
theorem field_k (a b c k : Nat) (hk : 1001 ≤ k) (ha : a < 256) (hb : b < 256) (hc : c < 256) : legatelaw04_AesField.f k (a : Int) (b : Int) (c : Int) = some true := by
  unfold legatelaw04_AesField.f
  rw [works04 k (by omega)]
  simp only [Option.bind_some, if_true]
  rw [own_times k a b (by omega) ha hb, own_times k b a (by omega) hb ha]
  simp only [Option.bind_some]
  rw [if_pos (by rw [mB_comm a b ha hb]), own_times k (mB a b) c (by omega) (mB_lt a b ha) hc]
  simp only [Option.bind_some]
  rw [own_times k b c (by omega) hb hc]
  simp only [Option.bind_some]
  rw [own_times k a (mB b c) (by omega) ha (mB_lt b c hb)]
  simp only [Option.bind_some]
  rw [mB_assoc a b c ha hb hc]
  simp only [BEq.rfl]
  obtain ⟨k, rfl⟩ : ∃ j, k = j + 1 := ⟨k - 1, by omega⟩
  exact field_j0 a b c k (by omega) ha hb hc
theorem AesField : legatelaw04_AesField.Pure := by
  intro a b c ha hb hc
  obtain ⟨a, h1, rfl⟩ := nat_of_wf ha
  obtain ⟨b, h2, rfl⟩ := nat_of_wf hb
  obtain ⟨c, h3, rfl⟩ := nat_of_wf hc
  exact ⟨1001, field_k a b c 1001 (by omega) h1 h2 h3⟩

end Go.Proofs.Ytkgijkfcmbpgpaa.Pure
