/- Joined by wip/pack.py out of: MAes1, MAes2, MAes3, MAes4, MCtr, MSeal, MSealRef, PureSealSums; what nothing here names is left out. -/
import Derived.ArgAppend
import Derived.Below
import Derived.BigQuiet
import Derived.Deep.AppendLies
import Derived.Deep.CutBlock
import Derived.Deep.DeepCutAuto
import Derived.Deep.Draws
import Derived.Deep.LoopGhost
import Derived.Deep.MidRow
import Derived.Deep.OwnRows
import Derived.Deep.QuietTactic
import Derived.Deep.RegionHeld3
import Derived.KernelRfl
import Derived.Laws.BitsAllLaws
import Derived.Laws.BitsLemmas
import Derived.Laws.BytesArg
import Derived.Laws.CopyOwn
import Derived.Laws.Cover3
import Derived.Laws.IdiomCopy
import Derived.Laws.MakeOwn
import Derived.Laws.OwnMore
import Derived.Laws.Rows
import Derived.Laws.Slices
import Derived.Laws.StructEq
import Derived.Laws.Tables
import Derived.Lib.AppendStr
import Derived.Lib.BufferWrite
import Derived.Lib.ConvBytes
import Derived.Lib.LazyBuf
import Derived.LoopIn
import Derived.LoopNIn
import Derived.Maps.AppendAt
import Derived.OrdersHeld
import Derived.Outline
import Derived.OwnWalk
import Derived.OwnWalkIn
import Derived.RangeFuncBound
import Derived.RangeFuncCalls
import Derived.RangeFuncLeaves
import Derived.RangeFuncNested
import Derived.RangeFuncOwn
import Derived.RowKit
import Derived.RowKit3
import Derived.ScopeJumps
import Derived.Shelf.Abstract
import Derived.Shelf.RegionOpen
import Derived.Shelf.Strings.Builder1
import Derived.Shelf.Strings.BuilderF
import Derived.Shelf.Strings.BuilderK
import Derived.StillTailTactics
import Derived.Tactics
import Derived.TacticsInMore
import Derived.WalkKit
import Derived.WalkMore
import Derived.WideLaws
import Derived.Test.YtkgijkfcmbpgpaaDoorProg
import Derived.Test.YtkgijkfcmbpgpaaDoorS3b10
import Derived.Test.YtkgijkfcmbpgpaaDoorS3b17
import Derived.Test.YtkgijkfcmbpgpaaDoorS3b18
import Derived.Test.YtkgijkfcmbpgpaaDoorS3b19
import Derived.Test.YtkgijkfcmbpgpaaDoorS3b20
import Derived.Test.YtkgijkfcmbpgpaaDoorS3b7
import Derived.Test.YtkgijkfcmbpgpaaDoorS3b8
section
namespace Go.Proofs.YtkgijkfcmbpgpaaDoor.Giv
open Go.RowKit Go.Proofs.YtkgijkfcmbpgpaaDoorW.PrintWords Go.Proofs.YtkgijkfcmbpgpaaDoorW.PrintLast Go.Proofs.YtkgijkfcmbpgpaaDoorW.PrintMore Go.Proofs.YtkgijkfcmbpgpaaDoor.PAll
set_option linter.unusedVariables false
set_option linter.unusedSimpArgs false

theorem all256 {p : Nat → Bool} (h : (List.range 256).all p = true) (n : Nat) (hn : n < 256) : p n = true :=
  List.all_eq_true.1 h n (List.mem_range.2 hn)
theorem nat_of_u8 {x : Int} (h : U8 x) : ∃ n : Nat, n < 256 ∧ x = (n : Int) := ⟨x.toNat, by unfold U8 at h; omega, by unfold U8 at h; omega⟩
theorem xor_lt {a b : Nat} (ha : a < 256) (hb : b < 256) : a ^^^ b < 256 := Nat.xor_lt_two_pow (n := 8) ha hb
/-- The reference's product, step by step. -/
def clN (a b : Nat) : Nat → Nat
  | 0 => 0
  | i + 1 => clN a b i ^^^ (if b.testBit i then a <<< i else 0)
def rsN (n i : Nat) : Nat := n ^^^ (if n.testBit i then 283 <<< (i - 8) else 0)
def rdN (n : Nat) : Nat → Nat
  | 0 => n
  | j + 1 => rsN (rdN n j) (14 - j)
def rfN (a b : Nat) : Nat := rdN (clN a b 8) 7 % 2 ^ 8
theorem clN_linB (a : Nat) : ∀ i, Lin fun b => clN a b i
  | 0 => Lin.const0
  | i + 1 => (clN_linB a i).xor (Lin.bit i (a <<< i))
theorem clN_linA (b : Nat) : ∀ i, Lin fun a => clN a b i
  | 0 => Lin.const0
  | i + 1 => by
    refine Lin.xor (clN_linA b i) ?_
    cases b.testBit i
    · exact Lin.const0
    · exact Lin.shl i
theorem rsN_lin (i : Nat) : Lin fun n => rsN n i := Lin.id.xor (Lin.bit i (283 <<< (i - 8)))
theorem rdN_lin : ∀ j, Lin fun n => rdN n j
  | 0 => Lin.id
  | j + 1 => (rsN_lin (14 - j)).comp (rdN_lin j)
theorem rfN_linA (b : Nat) : Lin fun a => rfN a b := (Lin.mod 8).comp ((rdN_lin 7).comp (clN_linA b 8))
theorem rfN_linB (a : Nat) : Lin fun b => rfN a b := (Lin.mod 8).comp ((rdN_lin 7).comp (clN_linB a 8))
theorem rfN_mB (a b : Nat) (ha : a < 256) (hb : b < 256) : rfN a b = mB a b := by
  refine lin_ext (f := fun a => rfN a b) (g := fun a => mB a b) (rfN_linA b) (mN_linA 8 b) 8 ?_ a ha
  intro i hi
  refine lin_ext (f := fun b => rfN (2 ^ i) b) (g := fun b => mB (2 ^ i) b) (rfN_linB _) (mN_linB 8 _) 8 ?_ b hb
  intro j hj
  revert j
  revert i
  decide
theorem clN_lt (a b : Nat) (ha : a < 256) : ∀ i, i ≤ 8 → clN a b i < 2 ^ 15
  | 0, _ => by unfold clN; decide
  | i + 1, hi => by
    unfold clN
    refine Nat.xor_lt_two_pow (clN_lt a b ha i (by omega)) ?_
    split
    · rw [Nat.shiftLeft_eq]
      have h1 := Nat.pow_le_pow_right (n := 2) (by omega) (show i ≤ 7 by omega)
      calc a * 2 ^ i ≤ 255 * 2 ^ 7 := Nat.mul_le_mul (by omega) h1
        _ < 2 ^ 15 := by decide
    · decide
theorem rsN_lt (n i : Nat) (hn : n < 2 ^ 15) (hi : i ≤ 14) : rsN n i < 2 ^ 15 := by
  unfold rsN
  refine Nat.xor_lt_two_pow hn ?_
  split
  · rw [Nat.shiftLeft_eq]
    have h1 := Nat.pow_le_pow_right (n := 2) (by omega) (show i - 8 ≤ 6 by omega)
    calc 283 * 2 ^ (i - 8) ≤ 283 * 2 ^ 6 := Nat.mul_le_mul (by omega) h1
      _ < 2 ^ 15 := by decide
  · decide
theorem rdN_lt (n : Nat) (hn : n < 2 ^ 15) : ∀ j, rdN n j < 2 ^ 15
  | 0 => hn
  | j + 1 => rsN_lt _ _ (rdN_lt n hn j) (by omega)
theorem ofInt64 (a : Nat) (ha : a < 18446744073709551616) : (BitVec.ofInt 64 (a : Int)).toNat = a := by
  rw [BitVec.ofInt_natCast, BitVec.toNat_ofNat]; exact Nat.mod_eq_of_lt (by omega)
theorem i64_xorN (a b : Nat) (ha : a < 2 ^ 32) (hb : b < 2 ^ 32) : Go.bits .xor .i64 (a : Int) (b : Int) = ((a ^^^ b : Nat) : Int) := by
  have hx : a ^^^ b < 2 ^ 32 := Nat.xor_lt_two_pow ha hb
  show IntKind.i64.wrap ((BitVec.ofInt 64 (a : Int) ^^^ BitVec.ofInt 64 (b : Int)).toNat : Int) = _
  rw [BitVec.toNat_xor, ofInt64 a (by omega), ofInt64 b (by omega), IntWalk.i64_in _ (by omega)]
theorem shl_i64N (a i : Nat) (hi : i ≤ 16) (ha : a < 2 ^ 32) : shl .i64 (a : Int) (i : Int) = ((a <<< i : Nat) : Int) := by
  have hp := Nat.pow_le_pow_right (n := 2) (by omega) hi
  have hm : a * 2 ^ i ≤ a * 2 ^ 16 := Nat.mul_le_mul (Nat.le_refl _) hp
  unfold shl
  rw [show min ((i : Int)).toNat IntKind.i64.bits = i from by rw [Int.toNat_natCast]; exact Nat.min_eq_left (by show i ≤ 64; omega), Nat.shiftLeft_eq]
  have e : (a : Int) * 2 ^ i = ((a * 2 ^ i : Nat) : Int) := by rw [Int.natCast_mul, Int.natCast_pow]; rfl
  rw [e, IntWalk.i64_in _ (by omega)]
theorem shr_N (q : IntKind) (hq : 8 ≤ q.bits) (a i : Nat) (hi : i ≤ q.bits) : shr q (a : Int) (i : Int) = ((a >>> i : Nat) : Int) := by
  unfold shr
  rw [show min ((i : Int)).toNat q.bits = i from by rw [Int.toNat_natCast]; exact Nat.min_eq_left hi, Nat.shiftRight_eq_div_pow, Int.natCast_ediv, Int.natCast_pow]
  rfl
theorem bit_test (a i : Nat) : (Int.tmod ((a >>> i : Nat) : Int) 2 = 1) ↔ a.testBit i = true := by
  rw [Nat.testBit_eq_decide_div_mod_eq, decide_eq_true_eq, Nat.shiftRight_eq_div_pow, Int.tmod_eq_emod_of_nonneg (Int.natCast_nonneg _)]
  generalize a / 2 ^ i = q
  omega
theorem w64N (x : Nat) (h : x < 9223372036854775808) : wrap64 (x : Int) = (x : Int) := by unfold wrap64; omega
theorem ref_times_l1 (n : Nat) (hn : n < 2 ^ 15) : ∀ (d j k : Nat), j + d = 7 → d < k → legateref04_Times.l1 k ((rdN n j : Nat) : Int) ((14 : Int) - (j : Int)) = some ((rdN n 7 % 256 : Nat) : Int) := by
  intro d
  induction d with
  | zero =>
    intro j k hj hk
    obtain ⟨k, rfl⟩ : ∃ j, k = j + 1 := ⟨k - 1, by omega⟩
    obtain rfl : j = 7 := by omega
    rw [legateref04_Times.l1, if_neg (by omega)]
    simp
  | succ d ih =>
    intro j k hj hk
    obtain ⟨k, rfl⟩ : ∃ j, k = j + 1 := ⟨k - 1, by omega⟩
    have e1 : (14 : Int) - (j : Int) = ((14 - j : Nat) : Int) := by omega
    have e2 : wrap64 (((14 - j : Nat) : Int) - 1) = (14 : Int) - ((j + 1 : Nat) : Int) := by unfold wrap64; omega
    have e3 : wrap64 (((14 - j : Nat) : Int) - 8) = ((14 - j - 8 : Nat) : Int) := by unfold wrap64; omega
    have hl := rdN_lt n hn j
    have hs : 283 <<< (14 - j - 8) < 2 ^ 15 := by
      rw [Nat.shiftLeft_eq]
      have h1 := Nat.pow_le_pow_right (n := 2) (by omega) (show 14 - j - 8 ≤ 6 by omega)
      calc 283 * 2 ^ (14 - j - 8) ≤ 283 * 2 ^ 6 := Nat.mul_le_mul (by omega) h1
        _ < 2 ^ 15 := by decide
    rw [e1, legateref04_Times.l1, if_pos (by omega), if_pos (by omega), shr_N .i64 (by decide) _ _ (by show 14 - j ≤ 64; omega), e2, e3]
    have hr : rdN n (j + 1) = rdN n j ^^^ (if (rdN n j).testBit (14 - j) then 283 <<< (14 - j - 8) else 0) := rfl
    by_cases hb : (rdN n j).testBit (14 - j) = true
    · have h283 : shl .i64 283 ((14 - j - 8 : Nat) : Int) = ((283 <<< (14 - j - 8) : Nat) : Int) := shl_i64N 283 _ (by omega) (by decide)
      rw [if_pos ((bit_test _ _).2 hb), if_pos (by omega), h283, i64_xorN _ _ (by omega) (by omega)]
      have hr' : rdN n j ^^^ 283 <<< (14 - j - 8) = rdN n (j + 1) := by rw [hr, if_pos hb]
      rw [hr']
      exact ih (j + 1) k (by omega) (by omega)
    · rw [if_neg (fun h => hb ((bit_test _ _).1 h))]
      have hr' : rdN n j = rdN n (j + 1) := by rw [hr, if_neg hb, Nat.xor_zero]
      rw [hr']
      exact ih (j + 1) k (by omega) (by omega)
theorem ref_times_l0 (a b : Nat) (ha : a < 256) (hb : b < 256) : ∀ (d i k : Nat), i + d = 8 → d + 9 < k →
    legateref04_Times.l0 k (a : Int) (b : Int) ((clN a b i : Nat) : Int) (i : Int) = some (mB a b : Int) := by
  intro d
  induction d with
  | zero =>
    intro i k hi hk
    obtain ⟨k, rfl⟩ : ∃ j, k = j + 1 := ⟨k - 1, by omega⟩
    obtain rfl : i = 8 := by omega
    rw [legateref04_Times.l0, if_neg (by omega)]
    have := ref_times_l1 (clN a b 8) (clN_lt a b ha 8 (by omega)) 7 0 k (by omega) (by omega)
    rw [← rfN_mB a b ha hb]
    exact this
  | succ d ih =>
    intro i k hi hk
    obtain ⟨k, rfl⟩ : ∃ j, k = j + 1 := ⟨k - 1, by omega⟩
    have e1 : wrap64 ((i : Int) + 1) = ((i + 1 : Nat) : Int) := by unfold wrap64; omega
    have hl := clN_lt a b ha i (by omega)
    have hs : a <<< i < 2 ^ 15 := by
      rw [Nat.shiftLeft_eq]
      have h1 := Nat.pow_le_pow_right (n := 2) (by omega) (show i ≤ 7 by omega)
      calc a * 2 ^ i ≤ 255 * 2 ^ 7 := Nat.mul_le_mul (by omega) h1
        _ < 2 ^ 15 := by decide
    rw [legateref04_Times.l0, if_pos (by omega), if_pos (by omega), shr_N .u8 (by decide) _ _ (by show i ≤ 8; omega), e1, w64N a (by omega), shl_i64N a i (by omega) (by omega), i64_xorN _ _ (by omega) (by omega)]
    have hr : clN a b (i + 1) = clN a b i ^^^ (if b.testBit i then a <<< i else 0) := rfl
    by_cases h : b.testBit i = true
    · rw [if_pos ((bit_test _ _).2 h)]
      have hr' : clN a b i ^^^ a <<< i = clN a b (i + 1) := by rw [hr, if_pos h]
      rw [hr']
      exact ih (i + 1) k (by omega) (by omega)
    · rw [if_neg (fun h2 => h ((bit_test _ _).1 h2))]
      have hr' : clN a b i = clN a b (i + 1) := by rw [hr, if_neg h, Nat.xor_zero]
      rw [hr']
      exact ih (i + 1) k (by omega) (by omega)
/-- The reference's product is the program's. -/
theorem ref_times (k a b : Nat) (hk : 20 ≤ k) (ha : a < 256) (hb : b < 256) : legateref04_Times.f k (a : Int) (b : Int) = some (mB a b : Int) :=
  ref_times_l0 a b ha hb 8 0 k (by omega) (by omega)
end Go.Proofs.YtkgijkfcmbpgpaaDoor.Giv
end

section
namespace Go.Proofs.YtkgijkfcmbpgpaaDoor.Giv
open Go.RowKit Go.Proofs.YtkgijkfcmbpgpaaDoorW.PrintWords Go.Proofs.YtkgijkfcmbpgpaaDoorW.PrintLast Go.Proofs.YtkgijkfcmbpgpaaDoorW.PrintMore Go.Proofs.YtkgijkfcmbpgpaaDoor.PAll
set_option linter.unusedVariables false
set_option linter.unusedSimpArgs false

set_option maxRecDepth 100000 in
/-- All bytes swapped. -/
def sboxL : List Int := [99, 124, 119, 123, 242, 107, 111, 197, 48, 1, 103, 43, 254, 215, 171, 118, 202, 130, 201, 125, 250, 89, 71, 240, 173, 212, 162, 175, 156, 164, 114, 192, 183, 253, 147, 38, 54, 63, 247, 204, 52, 165, 229, 241, 113, 216, 49, 21, 4, 199, 35, 195, 24, 150, 5, 154, 7, 18, 128, 226, 235, 39, 178, 117, 9, 131, 44, 26, 27, 110, 90, 160, 82, 59, 214, 179, 41, 227, 47, 132, 83, 209, 0, 237, 32, 252, 177, 91, 106, 203, 190, 57, 74, 76, 88, 207, 208, 239, 170, 251, 67, 77, 51, 133, 69, 249, 2, 127, 80, 60, 159, 168, 81, 163, 64, 143, 146, 157, 56, 245, 188, 182, 218, 33, 16, 255, 243, 210, 205, 12, 19, 236, 95, 151, 68, 23, 196, 167, 126, 61, 100, 93, 25, 115, 96, 129, 79, 220, 34, 42, 144, 136, 70, 238, 184, 20, 222, 94, 11, 219, 224, 50, 58, 10, 73, 6, 36, 92, 194, 211, 172, 98, 145, 149, 228, 121, 231, 200, 55, 109, 141, 213, 78, 169, 108, 86, 244, 234, 101, 122, 174, 8, 186, 120, 37, 46, 28, 166, 180, 198, 232, 221, 116, 31, 75, 189, 139, 138, 112, 62, 181, 102, 72, 3, 246, 14, 97, 53, 87, 185, 134, 193, 29, 158, 225, 248, 152, 17, 105, 217, 142, 148, 155, 30, 135, 233, 206, 85, 40, 223, 140, 161, 137, 13, 191, 230, 66, 104, 65, 153, 45, 15, 176, 84, 187, 22]
theorem sboxL_len : sboxL.length = 256 := by kernel_rfl
/-- A byte swapped. -/
def sbN (a : Nat) : Nat := (sboxL.getD a 0).toNat
theorem sb_nat (a : Nat) (ha : a < 256) : sboxL.getD a 0 = (sbN a : Int) ∧ sbN a < 256 := by
  have h : (List.range 256).all (fun a => decide (sboxL.getD a 0 = (sbN a : Int)) && decide (sbN a < 256)) = true := by kernel_rfl
  have := all256 h a ha
  simp only [Bool.and_eq_true, decide_eq_true_eq] at this
  exact this
theorem in_lt (a : Nat) (ha : a < 256) : inN a < 256 := by
  have h : (List.range 256).all (fun a => decide (inN a < 256)) = true := by kernel_rfl
  exact of_decide_eq_true (all256 h a ha)
theorem in_mul (a : Nat) (ha : a < 256) (h0 : a ≠ 0) : mB a (inN a) = 1 := by
  have h : (List.range 256).all (fun a => decide (a = 0) || decide (mB a (inN a) = 1)) = true := by kernel_rfl
  have := all256 h a ha
  simp only [Bool.or_eq_true, decide_eq_true_eq] at this
  exact this.resolve_left h0
theorem mB_one_l (a : Nat) (ha : a < 256) : mB 1 a = a := by rw [mB_comm 1 a (by omega) ha, mB_one]
theorem mB_zero_r (a : Nat) : mB a 0 = 0 := mN_zeroB 8 a
theorem mB_zero_l (b : Nat) : mB 0 b = 0 := (mN_linA 8 b).zero
/-- The one whose product is 1. -/
theorem in_only (a i : Nat) (ha : a < 256) (hi : i < 256) (h : mB a i = 1) : i = inN a := by
  have h0 : a ≠ 0 := by rintro rfl; rw [mB_zero_l] at h; omega
  have h1 := in_mul a ha h0
  have h2 := in_lt a ha
  rw [← mB_one_l i hi, ← h1, mB_comm a (inN a) ha h2, mB_assoc _ _ _ h2 ha hi, h, mB_one]
/-- One sum of the reference's swap. -/
def swE (x5 x3 : Int) (i : Nat) : Int := Go.bits .xor .i64 x5 (Int.tmod (Go.bits .or .i64 (shl .i64 x3 (i : Int)) (shr .i64 x3 ((8 - i : Nat) : Int))) 256)
def boxE (b : Int) : Int := (swE (swE (swE (swE (swE 99 b 0) b 1) b 2) b 3) b 4) % 256
theorem box_E (a : Nat) (ha : a < 256) : boxE (inN a : Int) = (sbN a : Int) := by
  have h : (List.range 256).all (fun a => decide (boxE (inN a : Int) = (sbN a : Int))) = true := by kernel_rfl
  exact of_decide_eq_true (all256 h a ha)
theorem sw_step (k : Nat) (x3 x5 : Int) (i : Nat) (hi : i ≤ 4) : legateref04_Swap.l1 (k + 1) x3 x5 (i : Int) = legateref04_Swap.l1 k x3 (swE x5 x3 i) ((i + 1 : Nat) : Int) := by
  have e1 : wrap64 (8 - (i : Int)) = ((8 - i : Nat) : Int) := by unfold wrap64; omega
  have e2 : wrap64 ((i : Int) + 1) = ((i + 1 : Nat) : Int) := by unfold wrap64; omega
  rw [legateref04_Swap.l1, e1, e2, if_pos (by omega), if_pos (by omega), if_pos (by omega)]
  rfl
theorem sw_end (k : Nat) (x3 x5 : Int) : legateref04_Swap.l1 (k + 1) x3 x5 ((5 : Nat) : Int) = some (x5 % 256) := by
  rw [legateref04_Swap.l1, if_neg (by omega)]
theorem sw_l1 (k : Nat) (hk : 6 ≤ k) (b : Int) : legateref04_Swap.l1 k b 99 0 = some (boxE b) := by
  obtain ⟨k, rfl⟩ : ∃ j, k = j + 6 := ⟨k - 6, by omega⟩
  have s0 := sw_step (k + 5) b 99 0 (by omega)
  have s1 := sw_step (k + 4) b (swE 99 b 0) 1 (by omega)
  have s2 := sw_step (k + 3) b (swE (swE 99 b 0) b 1) 2 (by omega)
  have s3 := sw_step (k + 2) b (swE (swE (swE 99 b 0) b 1) b 2) 3 (by omega)
  have s4 := sw_step (k + 1) b (swE (swE (swE (swE 99 b 0) b 1) b 2) b 3) 4 (by omega)
  exact s0.trans (s1.trans (s2.trans (s3.trans (s4.trans (sw_end k b _)))))
theorem sw_none (a : Nat) (ha : a < 256) (h0 : a = 0) : ∀ (d i k : Nat), i + d = 256 → 2 * d + 30 ≤ k → legateref04_Swap.l0 k (a : Int) 0 (i : Int) = some (boxE 0) := by
  intro d
  induction d with
  | zero =>
    intro i k hi hk
    obtain ⟨k, rfl⟩ : ∃ j, k = j + 2 := ⟨k - 2, by omega⟩
    rw [legateref04_Swap.l0, if_neg (by omega), legateref04_Swap.j1, if_neg (by simp)]
    exact sw_l1 k (by omega) 0
  | succ d ih =>
    intro i k hi hk
    obtain ⟨k, rfl⟩ : ∃ j, k = j + 2 := ⟨k - 2, by omega⟩
    have e : wrap64 ((i : Int) + 1) = ((i + 1 : Nat) : Int) := by unfold wrap64; omega
    have em : (i : Int) % 256 = (i : Int) := by omega
    rw [legateref04_Swap.l0, if_pos (by omega), legateref04_Swap.j1, if_pos (by rfl), em, ref_times k a i (by omega) ha (by omega)]
    simp only [Option.bind_some]
    rw [if_neg (by rw [h0, mB_zero_l]; decide), e]
    exact ih (i + 1) k (by omega) (by omega)
theorem sw_some (a : Nat) (ha : a < 256) (h0 : a ≠ 0) : ∀ (d i k : Nat), i + d = inN a → 2 * d + 40 ≤ k → legateref04_Swap.l0 k (a : Int) 0 (i : Int) = some (boxE (inN a : Int)) := by
  have hl := in_lt a ha
  intro d
  induction d with
  | zero =>
    intro i k hi hk
    obtain ⟨k, rfl⟩ : ∃ j, k = j + 4 := ⟨k - 4, by omega⟩
    have e : wrap64 ((i : Int) + 1) = ((i + 1 : Nat) : Int) := by unfold wrap64; omega
    have em : (i : Int) % 256 = (i : Int) := by omega
    have hm := in_mul a ha h0
    have hi2 : i = inN a := by omega
    have hne : i ≠ 0 := by
      rintro rfl
      rw [← hi2, mB_zero_r] at hm
      omega
    have hf : ((i : Int) == 0) = false := by rw [beq_eq_false_iff_ne]; omega
    rw [legateref04_Swap.l0, if_pos (by omega), legateref04_Swap.j1, if_pos (by rfl), em, ref_times (k + 2) a i (by omega) ha (by omega)]
    simp only [Option.bind_some]
    rw [if_pos (by rw [hi2, hm]; rfl), e, legateref04_Swap.l0]
    by_cases h : ((i + 1 : Nat) : Int) < 256
    · rw [if_pos h, hf, legateref04_Swap.j1, if_neg (by simp), sw_l1 k (by omega), hi2]
    · rw [if_neg h, legateref04_Swap.j1, if_neg (by simp), sw_l1 k (by omega), hi2]
  | succ d ih =>
    intro i k hi hk
    obtain ⟨k, rfl⟩ : ∃ j, k = j + 2 := ⟨k - 2, by omega⟩
    have e : wrap64 ((i : Int) + 1) = ((i + 1 : Nat) : Int) := by unfold wrap64; omega
    have em : (i : Int) % 256 = (i : Int) := by omega
    rw [legateref04_Swap.l0, if_pos (by omega), legateref04_Swap.j1, if_pos (by rfl), em, ref_times k a i (by omega) ha (by omega)]
    simp only [Option.bind_some]
    have hne : mB a i ≠ 1 := fun h => by
      have := in_only a i ha (by omega) h
      omega
    rw [if_neg (by omega), e]
    exact ih (i + 1) k (by omega) (by omega)
theorem in_zero : inN 0 = 0 := by decide
theorem in_pos (a : Nat) (ha : a < 256) (h0 : a ≠ 0) : 1 ≤ inN a := by
  have h := in_mul a ha h0
  by_cases h2 : inN a = 0
  · rw [h2, mB_zero_r] at h; omega
  · omega
/-- The reference's swap. -/
theorem ref_swap (a : Nat) (ha : a < 256) (k : Nat) (hk : 600 ≤ k) : legateref04_Swap.f k (a : Int) = some (sbN a : Int) := by
  unfold legateref04_Swap.f
  have hl := in_lt a ha
  by_cases h0 : a = 0
  · have := sw_none a ha h0 255 1 k (by omega) (by omega)
    rw [← box_E a ha, h0, in_zero]
    subst h0
    exact this
  · have h1 := in_pos a ha h0
    have := sw_some a ha h0 (inN a - 1) 1 k (by omega) (by omega)
    rw [← box_E a ha]
    exact this
theorem ref_table_l0 : ∀ (d i k : Nat), i + d = 256 → d + 600 < k → legateref04_Table.l0 k (sboxL.take i) (i : Int) = some sboxL := by
  intro d
  induction d with
  | zero =>
    intro i k hi hk
    obtain ⟨k, rfl⟩ : ∃ j, k = j + 1 := ⟨k - 1, by omega⟩
    obtain rfl : i = 256 := by omega
    rw [legateref04_Table.l0, if_neg (by omega), List.take_of_length_le (by rw [sboxL_len]; omega)]
  | succ d ih =>
    intro i k hi hk
    obtain ⟨k, rfl⟩ : ∃ j, k = j + 1 := ⟨k - 1, by omega⟩
    have e : wrap64 ((i : Int) + 1) = ((i + 1 : Nat) : Int) := by unfold wrap64; omega
    have em : (i : Int) % 256 = (i : Int) := by omega
    have hlen := sboxL_len
    rw [legateref04_Table.l0, if_pos (by omega), em, ref_swap i (by omega) k (by omega)]
    simp only [Option.bind_some]
    rw [if_pos (by rw [List.length_take]; omega), e]
    have e4 : sboxL.take i ++ [(sbN i : Int)] = sboxL.take (i + 1) := by
      rw [List.take_succ_eq_append_getElem (by omega), ← (sb_nat i (by omega)).1]
      simp [show i < sboxL.length by omega]
    rw [e4]
    exact ih (i + 1) k (by omega) (by omega)
theorem ref_table (k : Nat) (hk : 1000 ≤ k) : legateref04_Table.f k = some sboxL := ref_table_l0 256 0 k (by omega) (by omega)
end Go.Proofs.YtkgijkfcmbpgpaaDoor.Giv
end

section
namespace Go.Proofs.YtkgijkfcmbpgpaaDoor.Giv
open Go.RowKit Go.Proofs.YtkgijkfcmbpgpaaDoorW.PrintWords Go.Proofs.YtkgijkfcmbpgpaaDoorW.PrintLast Go.Proofs.YtkgijkfcmbpgpaaDoorW.PrintMore Go.Proofs.YtkgijkfcmbpgpaaDoor.PAll
set_option linter.unusedVariables false
set_option linter.unusedSimpArgs false

/-- A row of which the first n are new. -/
def bl (f : Nat → Int) (s : List Int) (n : Nat) : List Int := (List.range s.length).map fun i => if i < n then f i else s.getD i 0
theorem bl_len (f : Nat → Int) (s : List Int) (n : Nat) : (bl f s n).length = s.length := by simp [bl]
theorem bl_at (f : Nat → Int) (s : List Int) (n i : Nat) (hi : i < s.length) : (bl f s n).getD i 0 = if i < n then f i else s.getD i 0 := by
  simp [bl, List.getD_eq_getElem?_getD, hi]
theorem list_ext {a b : List Int} (hl : a.length = b.length) (h : ∀ i, i < a.length → a.getD i 0 = b.getD i 0) : a = b := by
  apply List.ext_getElem hl
  intro i h1 h2
  have := h i h1
  simpa [List.getD_eq_getElem?_getD, h1, h2] using this
theorem set_at (L : List Int) (i j : Nat) (x : Int) (hj : j < L.length) : (L.set i x).getD j 0 = if i = j then x else L.getD j 0 := by
  by_cases h : i = j
  · subst h; simp [List.getD_eq_getElem?_getD, hj]
  · simp [List.getD_eq_getElem?_getD, h]
theorem bl_zero (f : Nat → Int) (s : List Int) : bl f s 0 = s := by
  refine list_ext (bl_len _ _ _) fun i hi => ?_
  rw [bl_len] at hi
  rw [bl_at f s 0 i hi, if_neg (by omega)]
theorem bl_set (f : Nat → Int) (s : List Int) (n : Nat) : (bl f s n).set n (f n) = bl f s (n + 1) := by
  refine list_ext (by rw [List.length_set, bl_len, bl_len]) fun i hi => ?_
  rw [List.length_set, bl_len] at hi
  rw [set_at _ _ _ _ (by rw [bl_len]; exact hi), bl_at f s n i hi, bl_at f s (n + 1) i hi]
  by_cases h : n = i
  · subst h; rw [if_pos rfl, if_pos (by omega)]
  · rw [if_neg h]
    by_cases h2 : i < n
    · rw [if_pos h2, if_pos (by omega)]
    · rw [if_neg h2, if_neg (by omega)]
/-! The program's steps, as_ rows. -/
/-! Sums and products of the reference. -/
/-! The reference's rounds. -/
/-- What a round's first step makes. -/
def aF (T S : List Int) (i : Nat) : Int := T.getD (S.getD (shJ i) 0).toNat 0
end Go.Proofs.YtkgijkfcmbpgpaaDoor.Giv
end

section
namespace Go.Proofs.YtkgijkfcmbpgpaaDoor.Giv
open Go.RowKit Go.Proofs.YtkgijkfcmbpgpaaDoorW.PrintWords Go.Proofs.YtkgijkfcmbpgpaaDoorW.PrintLast Go.Proofs.YtkgijkfcmbpgpaaDoorW.PrintMore Go.Proofs.YtkgijkfcmbpgpaaDoor.PAll
set_option linter.unusedVariables false
set_option linter.unusedSimpArgs false

theorem strN_size (l : List Int) : (strOfNums l).size = l.length := by simp [strOfNums, ByteArray.size]
theorem bytesOf_at (s : ByteArray) (i : Nat) : (bytesOf s).getD i 0 = bt s (i : Int) := by
  unfold bt
  by_cases h : i < s.size
  · rw [dif_pos (by simpa using h)]
    have h' : i < s.data.toList.length := by rw [data_length]; exact h
    simp only [bytesOf, List.getD_eq_getElem?_getD, List.getElem?_map, List.getElem?_eq_getElem h', Option.map_some, Option.getD_some, Int.toNat_natCast]
    rfl
  · rw [dif_neg (by simpa using h)]
    have h' : s.data.toList.length ≤ i := by rw [data_length]; omega
    simp [bytesOf, List.getD_eq_getElem?_getD, List.getElem?_eq_none h']
theorem strN_at (l : List Int) (h8 : U8s l) (i : Nat) (hi : i < l.length) : bt (strOfNums l) (i : Int) = l.getD i 0 := by
  rw [← bytesOf_at]
  have h := h8 _ (List.getElem_mem hi)
  unfold U8 at h
  have e : (bytesOf (strOfNums l)).getD i 0 = ((UInt8.ofNat (l[i]).toNat).toNat : Int) := by
    simp [bytesOf, strOfNums, List.getD_eq_getElem?_getD, hi]
  rw [e, List.getD_eq_getElem?_getD, List.getElem?_eq_getElem hi, Option.getD_some, UInt8.toNat_ofNat']
  omega
/-! The keys. -/
/-! The encryption. -/
end Go.Proofs.YtkgijkfcmbpgpaaDoor.Giv
end

section
namespace Go.Proofs.YtkgijkfcmbpgpaaDoor.Giv
open Go.RowKit Go.Proofs.YtkgijkfcmbpgpaaDoorW.PrintWords Go.Proofs.YtkgijkfcmbpgpaaDoorW.PrintLast Go.Proofs.YtkgijkfcmbpgpaaDoorW.PrintMore Go.Proofs.YtkgijkfcmbpgpaaDoor.PAll
set_option linter.unusedVariables false
set_option linter.unusedSimpArgs false

theorem streamB_list (key nonce : ByteArray) (n : Nat) : (streamB key nonce n).data.toList = (catL (ctrPre key nonce ((n + 15) / 16))).take n := by
  unfold streamB
  simp [ByteArray.extract, ByteArray.copySlice]
theorem streamB_size (key nonce : ByteArray) (hn : nonce.size = 12) (n : Nat) : (streamB key nonce n).size = n := by
  rw [← data_length, streamB_list, List.length_take, catL_len key nonce hn]
  omega
theorem ba_ext {a b : ByteArray} (h : a.data.toList = b.data.toList) : a = b := ByteArray.ext (Array.toList_inj.1 h)
theorem stream_some (key nonce : ByteArray) (n : Nat) (hk : key.size = 16) (hn : nonce.size = 12) (h : n ≤ 1048576) : ctr_Stream.f key nonce (n : Int) = some (streamB key nonce n) := by
  unfold ctr_Stream.f
  by_cases h0 : n = 0
  · subst h0
    rw [if_neg (by omega)]
    have e : streamB key nonce 0 = ⟨#[]⟩ := ba_ext (by rw [streamB_list]; simp)
    rw [e]
  · rw [if_pos ⟨hk, hn, by omega, by omega⟩, Int.toNat_natCast]
/-- A text, each byte of it changed by that of another one. -/
def xoL (s t : ByteArray) : List Int := (List.range s.size).map fun (i : Nat) => Go.bits .xor .u8 (bt s (i : Int)) (bt t (i : Int))
def cipB (key nonce s : ByteArray) : ByteArray := strOfNums (xoL s (streamB key nonce s.size))
theorem xoL_len (s t : ByteArray) : (xoL s t).length = s.size := by simp [xoL]
theorem cipB_size (key nonce s : ByteArray) : (cipB key nonce s).size = s.size := by unfold cipB; rw [strN_size, xoL_len]
theorem rep0_len (n : Nat) : (List.replicate n (0 : Int)).length = n := List.length_replicate
theorem xoL_bl (s t : ByteArray) : xoL s t = bl (fun (i : Nat) => Go.bits .xor .u8 (bt s (i : Int)) (bt t (i : Int))) (List.replicate s.size 0) s.size := by
  refine list_ext (by rw [xoL_len, bl_len, rep0_len]) fun i hi => ?_
  rw [xoL_len] at hi
  rw [bl_at _ _ _ _ (by rw [rep0_len]; exact hi), if_pos hi]
  simp [xoL, List.getD_eq_getElem?_getD, hi]
theorem cip_l0 (s t : ByteArray) (ht : t.size = s.size) (hs : s.size ≤ 100000000) : ∀ (d m k : Nat), m + d = s.size → d < k →
    ctr_Cipher.l0 k s t (bl (fun (i : Nat) => Go.bits .xor .u8 (bt s (i : Int)) (bt t (i : Int))) (List.replicate s.size 0) m) (s.size : Int) (m : Int) = some (strOfNums (xoL s t)) := by
  intro d
  induction d with
  | zero =>
    intro m k hm hk
    obtain ⟨k, rfl⟩ : ∃ j, k = j + 1 := ⟨k - 1, by omega⟩
    obtain hm2 : m = s.size := by omega
    rw [ctr_Cipher.l0, if_neg (by omega), xoL_bl, hm2]
  | succ d ih =>
    intro m k hm hk
    obtain ⟨k, rfl⟩ : ∃ j, k = j + 1 := ⟨k - 1, by omega⟩
    have e : wrap64 ((m : Int) + 1) = ((m + 1 : Nat) : Int) := by unfold wrap64; omega
    have hr := rep0_len s.size
    rw [ctr_Cipher.l0, e, if_pos (by omega), if_pos (by omega), if_pos (by omega), if_pos (by omega), if_pos (by rw [bl_len]; omega), Int.toNat_natCast, bl_set (fun (i : Nat) => Go.bits .xor .u8 (bt s (i : Int)) (bt t (i : Int)))]
    exact ih (m + 1) k (by omega) (by omega)
theorem cipher_some (key nonce s : ByteArray) (k : Nat) (hk : s.size < k) (h1 : key.size = 16) (h2 : nonce.size = 12) (hs : s.size ≤ 1048576) : ctr_Cipher.f k key nonce s = some (cipB key nonce s) := by
  have ht := streamB_size key nonce h2 s.size
  unfold ctr_Cipher.f
  rw [stream_some key nonce s.size h1 h2 hs, Option.bind_some, if_pos (by omega), if_pos (by omega), if_pos (by omega), Int.toNat_natCast]
  have := cip_l0 s (streamB key nonce s.size) ht (by omega) s.size 0 k (by omega) hk
  rw [bl_zero] at this
  exact this
theorem bt_u8' (s : ByteArray) (i : Int) : U8 (bt s i) := by
  unfold bt U8
  split
  · have := (s[i.toNat]).toNat_lt; omega
  · omega
theorem xoL_u8 (s t : ByteArray) : U8s (xoL s t) := by
  intro x hx
  obtain ⟨i, _, rfl⟩ := List.mem_map.1 hx
  exact bits_u8 _ _ _ (.inr (.inr rfl))
theorem cip_at (key nonce s : ByteArray) (i : Nat) (hi : i < s.size) : bt (cipB key nonce s) (i : Int) = Go.bits .xor .u8 (bt s (i : Int)) (bt (streamB key nonce s.size) (i : Int)) := by
  unfold cipB
  rw [strN_at _ (xoL_u8 _ _) i (by rw [xoL_len]; exact hi)]
  simp [xoL, List.getD_eq_getElem?_getD, hi]
theorem bt_same {a b : ByteArray} (hs : a.size = b.size) (h : ∀ j : Nat, j < a.size → bt a (j : Int) = bt b (j : Int)) : a = b := by
  apply ByteArray.ext
  apply Array.ext
  · exact hs
  · intro i h1 h2
    have e := h i h1
    have q : ∀ (s : ByteArray) (hh : i < s.size), bt s (i : Int) = ((s[i]'hh).toNat : Int) := fun s hh => by
      unfold bt
      rw [dif_pos (by simpa using hh)]
      simp
    rw [q a h1, q b h2] at e
    have e2 : (a[i]'h1).toNat = (b[i]'h2).toNat := by exact_mod_cast e
    exact UInt8.toNat_inj.1 e2
/-- What is ciphered twice is as_ it was. -/
theorem cip_twice (key nonce s : ByteArray) : cipB key nonce (cipB key nonce s) = s := by
  have hz := cipB_size key nonce s
  refine bt_same (by rw [cipB_size, hz]) fun j hj => ?_
  rw [cipB_size, hz] at hj
  rw [cip_at _ _ _ j (by rw [hz]; exact hj), hz, cip_at _ _ _ j hj]
  obtain ⟨a, ha, ea⟩ := nat_of_u8 (bt_u8' s (j : Int))
  obtain ⟨b, hb, eb⟩ := nat_of_u8 (bt_u8' (streamB key nonce s.size) (j : Int))
  rw [ea, eb, u8_xor_nat a b ha hb, u8_xor_nat _ b (xor_lt ha hb) hb, Nat.xor_assoc, Nat.xor_self, Nat.xor_zero]
end Go.Proofs.YtkgijkfcmbpgpaaDoor.Giv
end

section
namespace Go.Proofs.YtkgijkfcmbpgpaaDoor.Giv
open Go.RowKit Go.Proofs.YtkgijkfcmbpgpaaDoorW.PrintWords Go.Proofs.YtkgijkfcmbpgpaaDoorW.PrintLast Go.Proofs.YtkgijkfcmbpgpaaDoorW.PrintMore Go.Proofs.YtkgijkfcmbpgpaaDoor.PSub Go.Proofs.YtkgijkfcmbpgpaaDoor.PAll
set_option linter.unusedVariables false
set_option linter.unusedSimpArgs false

theorem app_left (a b : ByteArray) (n : Nat) (h : n = a.size) : (a ++ b).extract 0 n = a := ByteArray.extract_append_eq_left h
theorem app_right (a b : ByteArray) (n m : Nat) (h : n = a.size) (hm : m = a.size + b.size) : (a ++ b).extract n m = b := ByteArray.extract_append_eq_right h hm
theorem app_mid (a b c : ByteArray) (n m : Nat) (h : n = a.size) (hm : m = a.size + b.size) : ((a ++ b) ++ c).extract n m = b := by
  have e : ((a ++ b) ++ c).extract n m = (a ++ b).extract n m := by
    have z : (c.extract (n - (a ++ b).size) (m - (a ++ b).size)).size = 0 := by
      rw [ByteArray.size_extract, ByteArray.size_append]; omega
    rw [ByteArray.extract_append]
    have z2 : c.extract (n - (a ++ b).size) (m - (a ++ b).size) = ByteArray.empty := ByteArray.size_eq_zero_iff.1 z
    rw [z2]
    exact ByteArray.append_empty
  rw [e]
  exact app_right a b n m h hm
/-- What is summed: the nonce, and the body ciphered. -/
def frontB (base : ByteArray) (use : Int) (nonce body : ByteArray) : ByteArray := nonce ++ cipB (ckB base use) nonce body
def smacB (base : ByteArray) (use : Int) (s : ByteArray) : ByteArray := macB (dkB base use sumL) s
/-- What a body is sealed as_. -/
def sealB (base : ByteArray) (use : Int) (nonce body : ByteArray) : ByteArray := frontB base use nonce body ++ smacB base use (frontB base use nonce body)
theorem frontB_size (base : ByteArray) (use : Int) (nonce body : ByteArray) : (frontB base use nonce body).size = nonce.size + body.size := by
  unfold frontB
  rw [ByteArray.size_append, cipB_size]
theorem smacB_size (base : ByteArray) (use : Int) (s : ByteArray) (h : s.size ≤ 90000000) : (smacB base use s).size = 32 := macB_size _ _ h
theorem sealB_size (base : ByteArray) (use : Int) (nonce body : ByteArray) (hn : nonce.size = 12) (hb : body.size ≤ 65536) : (sealB base use nonce body).size = body.size + 44 := by
  unfold sealB
  rw [ByteArray.size_append, smacB_size _ _ _ (by rw [frontB_size]; omega), frontB_size]
  omega
theorem sumL_size : sumL.size = 3 := rfl
theorem dkS_size (base : ByteArray) (use : Int) : (dkB base use sumL).size = 32 := dkB_size base use sumL (by rw [sumL_size]; omega)
theorem smac_some (base : ByteArray) (use : Int) (s : ByteArray) (h : s.size ≤ 90000000) : hmac_Mac.f (dkB base use sumL) s = some (smacB base use s) :=
  mac_some _ _ (by rw [dkS_size]; omega) h
theorem seal_some (base : ByteArray) (use : Int) (nonce body : ByteArray) (hb : base.size ≤ 100000000) (hn : nonce.size = 12) (hs : body.size ≤ 65536) (k : Nat) (hk : 65537 < k) :
    seal_Seal.f k base use nonce body = some (sealB base use nonce body, 0) := by
  obtain ⟨k, rfl⟩ : ∃ j, k = j + 1 := ⟨k - 1, by omega⟩
  have hc := ckB_size base use
  have hf := frontB_size base use nonce body
  have hm := smacB_size base use (frontB base use nonce body) (by omega)
  unfold seal_Seal.f
  rw [if_pos (by omega), decide_eq_false (by omega), seal_Seal.j0, if_neg (by simp), dcip_some base use hb, Option.bind_some, cipher_some _ nonce body k (by omega) hc hn (by omega), Option.bind_some,
    if_pos (by rw [cipB_size]; omega), dsum_some base use hb, Option.bind_some]
  have e : nonce ++ cipB (ckB base use) nonce body = frontB base use nonce body := rfl
  rw [e, smac_some base use _ (by omega), Option.bind_some, if_pos (by omega)]
  rfl
theorem open_short (base : ByteArray) (use : Int) (s : ByteArray) (h : s.size < 44) (k : Nat) : seal_Open.f k base use s = some (⟨#[]⟩, 10) := by
  unfold seal_Open.f
  rw [if_pos (by omega)]
open Classical in
theorem open_some (base : ByteArray) (use : Int) (s : ByteArray) (hb : base.size ≤ 100000000) (h1 : 44 ≤ s.size) (h2 : s.size ≤ 65580) (k : Nat) (hk : 65600 < k) :
    seal_Open.f k base use s = if smacB base use (s.extract 0 (s.size - 32)) = s.extract (s.size - 32) s.size then some (cipB (ckB base use) (s.extract 0 12) (s.extract 12 (s.size - 32)), 0) else some (⟨#[]⟩, 20) := by
  have hc := ckB_size base use
  have e : wrap64 ((s.size : Int) - 32) = ((s.size - 32 : Nat) : Int) := by unfold wrap64; omega
  have z1 : (s.extract 0 (s.size - 32)).size = s.size - 32 := by simp
  have z2 : (s.extract 0 12).size = 12 := by simp; omega
  have z3 : (s.extract 12 (s.size - 32)).size ≤ 65536 := by simp; omega
  have hm := smacB_size base use (s.extract 0 (s.size - 32)) (by omega)
  unfold seal_Open.f
  rw [if_neg (by omega), if_neg (by omega), dsum_some base use hb, Option.bind_some, e, if_pos (by omega), if_pos (by omega), Int.toNat_natCast, smac_some base use _ (by omega), Option.bind_some,
    equal_some _ _ (by omega) k (by omega), Option.bind_some]
  by_cases h : smacB base use (s.extract 0 (s.size - 32)) = s.extract (s.size - 32) s.size
  · rw [if_pos (decide_eq_true h), if_pos h, dcip_some base use hb, Option.bind_some, if_pos (by omega), if_pos (by omega), if_pos (by omega), cipher_some _ _ _ k (by omega) hc z2 (by omega), Option.bind_some]
  · rw [if_neg (by simpa using h), if_neg h]
theorem front_nonce (base : ByteArray) (use : Int) (nonce body e : ByteArray) (hn : nonce.size = 12) : (frontB base use nonce body ++ e).extract 0 12 = nonce := by
  unfold frontB
  rw [ByteArray.append_assoc]
  exact app_left _ _ _ (by omega)
theorem front_body (base : ByteArray) (use : Int) (nonce body e : ByteArray) (hn : nonce.size = 12) (m : Nat) (hm : m = 12 + body.size) : cipB (ckB base use) nonce ((frontB base use nonce body ++ e).extract 12 m) = body := by
  unfold frontB
  rw [app_mid _ _ _ _ _ (by omega) (by rw [cipB_size]; omega), cip_twice]
/-- What is opened of a front with an end behind it. -/
theorem open_front (base : ByteArray) (use : Int) (nonce body e : ByteArray) (hb : base.size ≤ 100000000) (hn : nonce.size = 12) (hs : body.size ≤ 65536) (he : e.size = 32) (k : Nat) (hk : 65600 < k) [Decidable (smacB base use (frontB base use nonce body) = e)] :
    seal_Open.f k base use (frontB base use nonce body ++ e) = if smacB base use (frontB base use nonce body) = e then some (body, 0) else some (⟨#[]⟩, 20) := by
  have hf := frontB_size base use nonce body
  have z : (frontB base use nonce body ++ e).size = body.size + 44 := by rw [ByteArray.size_append]; omega
  have e1 : (frontB base use nonce body ++ e).extract 0 ((frontB base use nonce body ++ e).size - 32) = frontB base use nonce body := app_left _ _ _ (by omega)
  have e2 : (frontB base use nonce body ++ e).extract ((frontB base use nonce body ++ e).size - 32) (frontB base use nonce body ++ e).size = e := app_right _ _ _ _ (by omega) (by omega)
  rw [open_some base use _ hb (by omega) (by omega) k hk, e1, e2, front_nonce base use nonce body e hn, front_body base use nonce body e hn _ (by omega)]
  by_cases h : smacB base use (frontB base use nonce body) = e
  · rw [if_pos h, if_pos h]
  · rw [if_neg h, if_neg h]
theorem open_seal (base : ByteArray) (use : Int) (nonce body : ByteArray) (hb : base.size ≤ 100000000) (hn : nonce.size = 12) (hs : body.size ≤ 65536) (k : Nat) (hk : 65600 < k) :
    seal_Open.f k base use (sealB base use nonce body) = some (body, 0) := by
  classical
  have hf := frontB_size base use nonce body
  unfold sealB
  rw [open_front base use nonce body _ hb hn hs (smacB_size base use _ (by omega)) k hk, if_pos rfl]
def chkL : ByteArray := ⟨#[99, 104, 101, 99, 107]⟩
/-- The sum of a body. -/
def bsumB (base : ByteArray) (use : Int) (body : ByteArray) : ByteArray := macB (dkB base use chkL) body
theorem chkL_size : chkL.size = 5 := rfl
theorem bsumB_size (base : ByteArray) (use : Int) (body : ByteArray) (h : body.size ≤ 90000000) : (bsumB base use body).size = 32 := macB_size _ _ h
theorem bsum_some (base : ByteArray) (use : Int) (body : ByteArray) (hb : base.size ≤ 100000000) (h : body.size ≤ 90000000) : seal_Sum.f base use body = some (bsumB base use body) := by
  unfold seal_Sum.f
  rw [show (⟨#[99, 104, 101, 99, 107]⟩ : ByteArray) = chkL from rfl, dkey_some base use chkL hb (by rw [chkL_size]; omega), Option.bind_some, mac_some _ _ (by rw [dkB_size base use chkL (by rw [chkL_size]; omega)]; omega) h]
  rfl
open Classical in
theorem check_some (base : ByteArray) (use : Int) (body sum : ByteArray) (hb : base.size ≤ 100000000) (h : body.size ≤ 90000000) (k : Nat) (hk : 32 < k) : seal_Check.f k base use body sum = if bsumB base use body = sum then some 0 else some 62 := by
  have z := bsumB_size base use body h
  unfold seal_Check.f
  rw [bsum_some base use body hb h, Option.bind_some, equal_some _ _ (by omega) k (by omega), Option.bind_some]
  by_cases e : bsumB base use body = sum
  · rw [if_pos (decide_eq_true e), if_pos e]
  · rw [if_neg (by simpa using e), if_neg e]
def exK : ByteArray := ⟨#[107]⟩
def exX : ByteArray := ⟨#[120]⟩
def exA : ByteArray := ⟨#[97]⟩
def exN : ByteArray := ⟨#[48, 49, 50, 51, 52, 53, 54, 55, 56, 57, 97, 98]⟩
theorem exK_size : exK.size = 1 := rfl
theorem exX_size : exX.size = 1 := rfl
theorem exA_size : exA.size = 1 := rfl
theorem exN_size : exN.size = 12 := rfl
theorem noB_size : noB.size = 0 := rfl
theorem noB_list : noB.toList = [] := by decide +kernel
theorem works07 (k : Nat) (hk : 65600 < k) : legatelaw07_works.f k = some true := by
  have z := sealB_size exK 1 exN noB exN_size (by rw [noB_size]; omega)
  rw [noB_size] at z
  unfold legatelaw07_works.f
  rw [show (⟨#[107]⟩ : ByteArray) = exK from rfl, show (⟨#[120]⟩ : ByteArray) = exX from rfl, show (⟨#[97]⟩ : ByteArray) = exA from rfl, show (⟨#[48, 49, 50, 51, 52, 53, 54, 55, 56, 57, 97, 98]⟩ : ByteArray) = exN from rfl, show (⟨#[]⟩ : ByteArray) = noB from rfl,
    seal_some exK 1 exN noB (by rw [exK_size]; omega) exN_size (by rw [noB_size]; omega) k (by omega), Option.bind_some, open_seal exK 1 exN noB (by rw [exK_size]; omega) exN_size (by rw [noB_size]; omega) k hk, Option.bind_some,
    open_short exK 1 exX (by rw [exX_size]; omega) k, Option.bind_some, if_pos (by rw [z]; rfl), if_pos rfl, if_pos noB_list, if_pos rfl, if_pos rfl, bsum_some exK 1 exA (by rw [exK_size]; omega) (by rw [exA_size]; omega), Option.bind_some,
    check_some exK 1 exA _ (by rw [exK_size]; omega) (by rw [exA_size]; omega) k (by omega), if_pos rfl]
  rfl
end Go.Proofs.YtkgijkfcmbpgpaaDoor.Giv
end

section
namespace Go.Proofs.YtkgijkfcmbpgpaaDoor.Giv
open Go.RowKit Go.Proofs.YtkgijkfcmbpgpaaDoorW.PrintWords Go.Proofs.YtkgijkfcmbpgpaaDoorW.PrintLast Go.Proofs.YtkgijkfcmbpgpaaDoorW.PrintMore Go.Proofs.YtkgijkfcmbpgpaaDoor.PSub Go.Proofs.YtkgijkfcmbpgpaaDoor.PAll
set_option linter.unusedVariables false
set_option linter.unusedSimpArgs false

theorem ref_world (k : Nat) (hk : 6000 ≤ k) : legateref07_New.f k = some (keysL, stB firstL, sboxL) := by
  unfold legateref07_New.f
  rw [ref_new k hk, Option.bind_some, ref_table k (by omega), Option.bind_some]
theorem ref_bsum (base : ByteArray) (use : Int) (body : ByteArray) (hb : base.size ≤ 5000) (hs : body.size ≤ 3000) (T : List Int) (k : Nat) (hk : 1000 ≤ k) :
    legateref07_World_Sum.f k keysL (stB firstL) T base use body = some (bsumB base use body) := by
  unfold legateref07_World_Sum.f
  rw [show (⟨#[99, 104, 101, 99, 107]⟩ : ByteArray) = chkL from rfl, ref_dkey base use chkL hb (by rw [chkL_size]; omega) k hk, Option.bind_some, ref_mac _ _ (by rw [dkB_size base use chkL (by rw [chkL_size]; omega)]; omega) (by omega) k hk]
  rfl
end Go.Proofs.YtkgijkfcmbpgpaaDoor.Giv
end

section
namespace Go.Proofs.YtkgijkfcmbpgpaaDoor.Pure
open Go.RowKit Go.Proofs.YtkgijkfcmbpgpaaDoor.PAll Go.Proofs.YtkgijkfcmbpgpaaDoorW.PrintWords Go.Proofs.YtkgijkfcmbpgpaaDoorW.PrintLast
open Go.Proofs.YtkgijkfcmbpgpaaDoor.Giv
set_option linter.unusedVariables false
set_option linter.unusedSimpArgs false

theorem sums_out (k : Nat) (a : ByteArray) (n : Int) (s t : ByteArray) : legatelaw07_SealSums.j0 (k + 1) a n s t true true = some true := by
  rw [legatelaw07_SealSums.j0, if_pos rfl]
theorem sums_in (k : Nat) (hk : 70000 ≤ k) (a : ByteArray) (n : Int) (s t : ByteArray) (ha : a.size ≤ 200) (hs : s.size ≤ 200) : legatelaw07_SealSums.j0 (k + 1) a n s t true false = some true := by
  classical
  rw [legatelaw07_SealSums.j0, if_neg (by simp), ref_world k (by omega), Option.bind_some]
  show ((legateref07_World_Sum.f k keysL (stB firstL) sboxL a n s).bind fun t538 => _) = some true
  rw [ref_bsum a n s (by omega) (by omega) sboxL k (by omega), Option.bind_some, bsum_some a n s (by omega) (by omega), check_some a n s t (by omega) (by omega) k (by omega), check_some a n s _ (by omega) (by omega) k (by omega)]
  by_cases h : bsumB a n s = t
  · rw [if_pos (by rw [h]), if_pos rfl, if_pos h, if_pos rfl, Option.bind_some, if_pos rfl, Option.bind_some, if_pos rfl, Option.bind_some]
    rfl
  · rw [if_neg (fun q => h (toList_inj q)), if_pos rfl, if_neg h, if_pos rfl, Option.bind_some, if_pos rfl, Option.bind_some, if_pos rfl, Option.bind_some]
    rfl
theorem SealSums : legatelaw07_SealSums.Pure := by
  intro a n s t _ _ _ _
  refine ⟨70000 + 1, ?_⟩
  generalize hk : 70000 = k
  unfold legatelaw07_SealSums.f
  rw [works07 _ (by omega), Option.bind_some, if_pos rfl]
  by_cases h1 : (a.size : Int) > 200
  · rw [if_pos h1]; exact sums_out k a n s t
  rw [if_neg h1]
  by_cases h2 : (s.size : Int) > 200
  · rw [decide_eq_true h2]; exact sums_out k a n s t
  · rw [decide_eq_false h2]; exact sums_in k (by omega) a n s t (by omega) (by omega)

end Go.Proofs.YtkgijkfcmbpgpaaDoor.Pure
end
