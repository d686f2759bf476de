/- The table of bytes swapped: the program's, and the reference's: one list. -/
import Derived.Test.YtkgijkfcmbpgpaaMAes1
import Derived.Test.YtkgijkfcmbpgpaaPAllx2
namespace Go.Proofs.Ytkgijkfcmbpgpaa.Giv
open Go.RowKit Go.Proofs.YtkgijkfcmbpgpaaW.PrintWords Go.Proofs.YtkgijkfcmbpgpaaW.PrintLast Go.Proofs.YtkgijkfcmbpgpaaW.PrintMore Go.Proofs.Ytkgijkfcmbpgpaa.PAll
set_option linter.unusedVariables false
set_option linter.unusedSimpArgs false

set_option maxRecDepth 100000 in
/-- All bytes swapped. -/
def sboxL : List Int := [99, 124, 119, 123, 242, 107, 111, 197, 48, 1, 103, 43, 254, 215, 171, 118, 202, 130, 201, 125, 250, 89, 71, 240, 173, 212, 162, 175, 156, 164, 114, 192, 183, 253, 147, 38, 54, 63, 247, 204, 52, 165, 229, 241, 113, 216, 49, 21, 4, 199, 35, 195, 24, 150, 5, 154, 7, 18, 128, 226, 235, 39, 178, 117, 9, 131, 44, 26, 27, 110, 90, 160, 82, 59, 214, 179, 41, 227, 47, 132, 83, 209, 0, 237, 32, 252, 177, 91, 106, 203, 190, 57, 74, 76, 88, 207, 208, 239, 170, 251, 67, 77, 51, 133, 69, 249, 2, 127, 80, 60, 159, 168, 81, 163, 64, 143, 146, 157, 56, 245, 188, 182, 218, 33, 16, 255, 243, 210, 205, 12, 19, 236, 95, 151, 68, 23, 196, 167, 126, 61, 100, 93, 25, 115, 96, 129, 79, 220, 34, 42, 144, 136, 70, 238, 184, 20, 222, 94, 11, 219, 224, 50, 58, 10, 73, 6, 36, 92, 194, 211, 172, 98, 145, 149, 228, 121, 231, 200, 55, 109, 141, 213, 78, 169, 108, 86, 244, 234, 101, 122, 174, 8, 186, 120, 37, 46, 28, 166, 180, 198, 232, 221, 116, 31, 75, 189, 139, 138, 112, 62, 181, 102, 72, 3, 246, 14, 97, 53, 87, 185, 134, 193, 29, 158, 225, 248, 152, 17, 105, 217, 142, 148, 155, 30, 135, 233, 206, 85, 40, 223, 140, 161, 137, 13, 191, 230, 66, 104, 65, 153, 45, 15, 176, 84, 187, 22]
theorem swaps_box : swapsL = sboxL := by kernel_rfl
theorem sboxL_len : sboxL.length = 256 := by kernel_rfl
/-- A byte swapped. -/
def sbN (a : Nat) : Nat := (sboxL.getD a 0).toNat
theorem sb_nat (a : Nat) (ha : a < 256) : sboxL.getD a 0 = (sbN a : Int) ∧ sbN a < 256 := by
  have h : (List.range 256).all (fun a => decide (sboxL.getD a 0 = (sbN a : Int)) && decide (sbN a < 256)) = true := by kernel_rfl
  have := all256 h a ha
  simp only [Bool.and_eq_true, decide_eq_true_eq] at this
  exact this
theorem in_lt (a : Nat) (ha : a < 256) : inN a < 256 := by
  have h : (List.range 256).all (fun a => decide (inN a < 256)) = true := by kernel_rfl
  exact of_decide_eq_true (all256 h a ha)
theorem in_mul (a : Nat) (ha : a < 256) (h0 : a ≠ 0) : mB a (inN a) = 1 := by
  have h : (List.range 256).all (fun a => decide (a = 0) || decide (mB a (inN a) = 1)) = true := by kernel_rfl
  have := all256 h a ha
  simp only [Bool.or_eq_true, decide_eq_true_eq] at this
  exact this.resolve_left h0
theorem mB_one_l (a : Nat) (ha : a < 256) : mB 1 a = a := by rw [mB_comm 1 a (by omega) ha, mB_one]
theorem mB_zero_r (a : Nat) : mB a 0 = 0 := mN_zeroB 8 a
theorem mB_zero_l (b : Nat) : mB 0 b = 0 := (mN_linA 8 b).zero
/-- The one whose product is 1. -/
theorem in_only (a i : Nat) (ha : a < 256) (hi : i < 256) (h : mB a i = 1) : i = inN a := by
  have h0 : a ≠ 0 := by rintro rfl; rw [mB_zero_l] at h; omega
  have h1 := in_mul a ha h0
  have h2 := in_lt a ha
  rw [← mB_one_l i hi, ← h1, mB_comm a (inN a) ha h2, mB_assoc _ _ _ h2 ha hi, h, mB_one]
/-- One sum of the reference's swap. -/
def swE (x5 x3 : Int) (i : Nat) : Int := Go.bits .xor .i64 x5 (Int.tmod (Go.bits .or .i64 (shl .i64 x3 (i : Int)) (shr .i64 x3 ((8 - i : Nat) : Int))) 256)
def boxE (b : Int) : Int := (swE (swE (swE (swE (swE 99 b 0) b 1) b 2) b 3) b 4) % 256
theorem box_E (a : Nat) (ha : a < 256) : boxE (inN a : Int) = (sbN a : Int) := by
  have h : (List.range 256).all (fun a => decide (boxE (inN a : Int) = (sbN a : Int))) = true := by kernel_rfl
  exact of_decide_eq_true (all256 h a ha)
theorem sw_step (k : Nat) (x3 x5 : Int) (i : Nat) (hi : i ≤ 4) : legateref04_Swap.l1 (k + 1) x3 x5 (i : Int) = legateref04_Swap.l1 k x3 (swE x5 x3 i) ((i + 1 : Nat) : Int) := by
  have e1 : wrap64 (8 - (i : Int)) = ((8 - i : Nat) : Int) := by unfold wrap64; omega
  have e2 : wrap64 ((i : Int) + 1) = ((i + 1 : Nat) : Int) := by unfold wrap64; omega
  rw [legateref04_Swap.l1, e1, e2, if_pos (by omega), if_pos (by omega), if_pos (by omega)]
  rfl
theorem sw_end (k : Nat) (x3 x5 : Int) : legateref04_Swap.l1 (k + 1) x3 x5 ((5 : Nat) : Int) = some (x5 % 256) := by
  rw [legateref04_Swap.l1, if_neg (by omega)]
theorem sw_l1 (k : Nat) (hk : 6 ≤ k) (b : Int) : legateref04_Swap.l1 k b 99 0 = some (boxE b) := by
  obtain ⟨k, rfl⟩ : ∃ j, k = j + 6 := ⟨k - 6, by omega⟩
  have s0 := sw_step (k + 5) b 99 0 (by omega)
  have s1 := sw_step (k + 4) b (swE 99 b 0) 1 (by omega)
  have s2 := sw_step (k + 3) b (swE (swE 99 b 0) b 1) 2 (by omega)
  have s3 := sw_step (k + 2) b (swE (swE (swE 99 b 0) b 1) b 2) 3 (by omega)
  have s4 := sw_step (k + 1) b (swE (swE (swE (swE 99 b 0) b 1) b 2) b 3) 4 (by omega)
  exact s0.trans (s1.trans (s2.trans (s3.trans (s4.trans (sw_end k b _)))))
theorem sw_none (a : Nat) (ha : a < 256) (h0 : a = 0) : ∀ (d i k : Nat), i + d = 256 → 2 * d + 30 ≤ k → legateref04_Swap.l0 k (a : Int) 0 (i : Int) = some (boxE 0) := by
  intro d
  induction d with
  | zero =>
    intro i k hi hk
    obtain ⟨k, rfl⟩ : ∃ j, k = j + 2 := ⟨k - 2, by omega⟩
    rw [legateref04_Swap.l0, if_neg (by omega), legateref04_Swap.j1, if_neg (by simp)]
    exact sw_l1 k (by omega) 0
  | succ d ih =>
    intro i k hi hk
    obtain ⟨k, rfl⟩ : ∃ j, k = j + 2 := ⟨k - 2, by omega⟩
    have e : wrap64 ((i : Int) + 1) = ((i + 1 : Nat) : Int) := by unfold wrap64; omega
    have em : (i : Int) % 256 = (i : Int) := by omega
    rw [legateref04_Swap.l0, if_pos (by omega), legateref04_Swap.j1, if_pos (by rfl), em, ref_times k a i (by omega) ha (by omega)]
    simp only [Option.bind_some]
    rw [if_neg (by rw [h0, mB_zero_l]; decide), e]
    exact ih (i + 1) k (by omega) (by omega)
theorem sw_some (a : Nat) (ha : a < 256) (h0 : a ≠ 0) : ∀ (d i k : Nat), i + d = inN a → 2 * d + 40 ≤ k → legateref04_Swap.l0 k (a : Int) 0 (i : Int) = some (boxE (inN a : Int)) := by
  have hl := in_lt a ha
  intro d
  induction d with
  | zero =>
    intro i k hi hk
    obtain ⟨k, rfl⟩ : ∃ j, k = j + 4 := ⟨k - 4, by omega⟩
    have e : wrap64 ((i : Int) + 1) = ((i + 1 : Nat) : Int) := by unfold wrap64; omega
    have em : (i : Int) % 256 = (i : Int) := by omega
    have hm := in_mul a ha h0
    have hi2 : i = inN a := by omega
    have hne : i ≠ 0 := by
      rintro rfl
      rw [← hi2, mB_zero_r] at hm
      omega
    have hf : ((i : Int) == 0) = false := by rw [beq_eq_false_iff_ne]; omega
    rw [legateref04_Swap.l0, if_pos (by omega), legateref04_Swap.j1, if_pos (by rfl), em, ref_times (k + 2) a i (by omega) ha (by omega)]
    simp only [Option.bind_some]
    rw [if_pos (by rw [hi2, hm]; rfl), e, legateref04_Swap.l0]
    by_cases h : ((i + 1 : Nat) : Int) < 256
    · rw [if_pos h, hf, legateref04_Swap.j1, if_neg (by simp), sw_l1 k (by omega), hi2]
    · rw [if_neg h, legateref04_Swap.j1, if_neg (by simp), sw_l1 k (by omega), hi2]
  | succ d ih =>
    intro i k hi hk
    obtain ⟨k, rfl⟩ : ∃ j, k = j + 2 := ⟨k - 2, by omega⟩
    have e : wrap64 ((i : Int) + 1) = ((i + 1 : Nat) : Int) := by unfold wrap64; omega
    have em : (i : Int) % 256 = (i : Int) := by omega
    rw [legateref04_Swap.l0, if_pos (by omega), legateref04_Swap.j1, if_pos (by rfl), em, ref_times k a i (by omega) ha (by omega)]
    simp only [Option.bind_some]
    have hne : mB a i ≠ 1 := fun h => by
      have := in_only a i ha (by omega) h
      omega
    rw [if_neg (by omega), e]
    exact ih (i + 1) k (by omega) (by omega)
theorem in_zero : inN 0 = 0 := by decide
theorem in_pos (a : Nat) (ha : a < 256) (h0 : a ≠ 0) : 1 ≤ inN a := by
  have h := in_mul a ha h0
  by_cases h2 : inN a = 0
  · rw [h2, mB_zero_r] at h; omega
  · omega
/-- The reference's swap. -/
theorem ref_swap (a : Nat) (ha : a < 256) (k : Nat) (hk : 600 ≤ k) : legateref04_Swap.f k (a : Int) = some (sbN a : Int) := by
  unfold legateref04_Swap.f
  have hl := in_lt a ha
  by_cases h0 : a = 0
  · have := sw_none a ha h0 255 1 k (by omega) (by omega)
    rw [← box_E a ha, h0, in_zero]
    subst h0
    exact this
  · have h1 := in_pos a ha h0
    have := sw_some a ha h0 (inN a - 1) 1 k (by omega) (by omega)
    rw [← box_E a ha]
    exact this
theorem ref_table_l0 : ∀ (d i k : Nat), i + d = 256 → d + 600 < k → legateref04_Table.l0 k (sboxL.take i) (i : Int) = some sboxL := by
  intro d
  induction d with
  | zero =>
    intro i k hi hk
    obtain ⟨k, rfl⟩ : ∃ j, k = j + 1 := ⟨k - 1, by omega⟩
    obtain rfl : i = 256 := by omega
    rw [legateref04_Table.l0, if_neg (by omega), List.take_of_length_le (by rw [sboxL_len]; omega)]
  | succ d ih =>
    intro i k hi hk
    obtain ⟨k, rfl⟩ : ∃ j, k = j + 1 := ⟨k - 1, by omega⟩
    have e : wrap64 ((i : Int) + 1) = ((i + 1 : Nat) : Int) := by unfold wrap64; omega
    have em : (i : Int) % 256 = (i : Int) := by omega
    have hlen := sboxL_len
    rw [legateref04_Table.l0, if_pos (by omega), em, ref_swap i (by omega) k (by omega)]
    simp only [Option.bind_some]
    rw [if_pos (by rw [List.length_take]; omega), e]
    have e4 : sboxL.take i ++ [(sbN i : Int)] = sboxL.take (i + 1) := by
      rw [List.take_succ_eq_append_getElem (by omega), ← (sb_nat i (by omega)).1]
      simp [show i < sboxL.length by omega]
    rw [e4]
    exact ih (i + 1) k (by omega) (by omega)
theorem ref_table (k : Nat) (hk : 1000 ≤ k) : legateref04_Table.f k = some sboxL := ref_table_l0 256 0 k (by omega) (by omega)
end Go.Proofs.Ytkgijkfcmbpgpaa.Giv
