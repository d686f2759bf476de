/- AesSwaps: each byte is swapped to what it is by its inverse. -/
import Derived.Test.YtkgijkfcmbpgpaaMAesT
import Derived.Test.YtkgijkfcmbpgpaaPAllx6on
namespace Go.Proofs.Ytkgijkfcmbpgpaa.Pure
open Go.RowKit Go.Proofs.Ytkgijkfcmbpgpaa.PAll Go.Proofs.YtkgijkfcmbpgpaaW.PrintWords Go.Proofs.YtkgijkfcmbpgpaaW.PrintLast
open Go.Proofs.Ytkgijkfcmbpgpaa.Giv
set_option linter.unusedVariables false
set_option linter.unusedSimpArgs false

theorem swaps_step (k : Nat) (b : Int) (x6 x7 : Int) (i : Nat) (hi : i ≤ 4) (hb : wrap64 b = b) :
    legatelaw04_AesSwaps.l0 (k + 1) b true x6 x7 (i : Int) = legatelaw04_AesSwaps.l0 k b true x6 (swE x7 b i) ((i + 1 : Nat) : Int) := by
  have e1 : wrap64 (8 - (i : Int)) = ((8 - i : Nat) : Int) := by unfold wrap64; omega
  have e2 : wrap64 ((i : Int) + 1) = ((i + 1 : Nat) : Int) := by unfold wrap64; omega
  rw [legatelaw04_AesSwaps.l0, e1, e2, hb, if_pos (by omega), if_pos (by omega), if_pos (by omega)]
  rfl
theorem swaps_l0 (k b a : Nat) (ha : a < 256) (hb : b < 256) (h : b = inN a) : legatelaw04_AesSwaps.l0 (k + 5) (b : Int) true (sbN a : Int) (b : Int) 1 = some true := by
  have hw := w64N b (by omega)
  have hs := (sb_nat a ha).2
  have s1 := swaps_step (k + 4) (b : Int) (sbN a : Int) b 1 (by omega) hw
  have s2 := swaps_step (k + 3) (b : Int) (sbN a : Int) (swE b b 1) 2 (by omega) hw
  have s3 := swaps_step (k + 2) (b : Int) (sbN a : Int) (swE (swE b b 1) b 2) 3 (by omega) hw
  have s4 := swaps_step (k + 1) (b : Int) (sbN a : Int) (swE (swE (swE b b 1) b 2) b 3) 4 (by omega) hw
  refine s1.trans (s2.trans (s3.trans (s4.trans ?_)))
  rw [legatelaw04_AesSwaps.l0, if_neg (by omega), if_pos rfl, w64N _ (by omega)]
  have e := box_Q a ha
  unfold boxQ at e
  rw [h, e]
  simp
theorem swaps_in (k b a : Nat) (ha : a < 256) (hb : b < 256) (h : b = inN a) : legatelaw04_AesSwaps.j0 (k + 6) (b : Int) true (sbN a : Int) false = some true := by
  rw [legatelaw04_AesSwaps.j0, if_neg (by simp), w64N b (by omega)]
  exact swaps_l0 k b a ha hb h
theorem swaps_out (k : Nat) (b x : Int) : legatelaw04_AesSwaps.j0 (k + 1) b true x true = some true := by
  rw [legatelaw04_AesSwaps.j0, if_pos rfl]
theorem swaps_k (a b k : Nat) (ha : a < 256) (hb : b < 256) : legatelaw04_AesSwaps.f (k + 100) (a : Int) (b : Int) = some true := by
  unfold legatelaw04_AesSwaps.f
  rw [works04 _ (by omega)]
  simp only [Option.bind_some, if_true]
  rw [own_swap a ha, own_times _ a b (by omega) ha hb]
  simp only [Option.bind_some]
  by_cases h1 : mB a b = 1
  · rw [if_pos (by rw [h1]; rfl)]
    exact swaps_in (k + 94) b a ha hb (in_only a b ha hb h1)
  · rw [if_neg (by omega)]
    by_cases h0 : a = 0
    · rw [if_pos (by omega)]
      by_cases h2 : b = 0
      · have e : (!((b : Int) == 0)) = false := by rw [h2]; rfl
        rw [e]
        exact swaps_in (k + 94) b a ha hb (by rw [h0, h2, in_zero])
      · have e : (!((b : Int) == 0)) = true := by
          have h3 : ((b : Int) == 0) = false := by rw [beq_eq_false_iff_ne]; omega
          rw [h3]; rfl
        rw [e]
        exact swaps_out (k + 99) _ _
    · rw [if_neg (by omega)]
      exact swaps_out (k + 99) _ _
theorem AesSwaps : legatelaw04_AesSwaps.Pure := by
  intro a b ha hb
  obtain ⟨a, h1, rfl⟩ := nat_of_wf ha
  obtain ⟨b, h2, rfl⟩ := nat_of_wf hb
  exact ⟨0 + 100, swaps_k a b 0 h1 h2⟩

end Go.Proofs.Ytkgijkfcmbpgpaa.Pure
