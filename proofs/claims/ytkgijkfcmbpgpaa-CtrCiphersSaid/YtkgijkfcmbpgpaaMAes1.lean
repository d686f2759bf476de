/- Bytes as natural numbers: sums, products, the reference's products. -/
import Derived.Test.YtkgijkfcmbpgpaaMField
import Derived.Test.YtkgijkfcmbpgpaaGAes5
import Derived.Test.YtkgijkfcmbpgpaaPAllx1
import Derived.Laws.BitsAllLaws
import Derived.KernelRfl
namespace Go.Proofs.Ytkgijkfcmbpgpaa.Giv
open Go.RowKit Go.Proofs.YtkgijkfcmbpgpaaW.PrintWords Go.Proofs.YtkgijkfcmbpgpaaW.PrintLast Go.Proofs.YtkgijkfcmbpgpaaW.PrintMore Go.Proofs.Ytkgijkfcmbpgpaa.PAll
set_option linter.unusedVariables false
set_option linter.unusedSimpArgs false

theorem all256 {p : Nat → Bool} (h : (List.range 256).all p = true) (n : Nat) (hn : n < 256) : p n = true :=
  List.all_eq_true.1 h n (List.mem_range.2 hn)
theorem nat_of_u8 {x : Int} (h : U8 x) : ∃ n : Nat, n < 256 ∧ x = (n : Int) := ⟨x.toNat, by unfold U8 at h; omega, by unfold U8 at h; omega⟩
theorem tw_nat (n : Nat) (hn : n < 256) : tw (n : Int) = (tN n : Int) := by
  have h : (List.range 256).all (fun n => decide (tw (n : Int) = (tN n : Int))) = true := by kernel_rfl
  exact of_decide_eq_true (all256 h n hn)
theorem xor_lt {a b : Nat} (ha : a < 256) (hb : b < 256) : a ^^^ b < 256 := Nat.xor_lt_two_pow (n := 8) ha hb
/-- The reference's product, step by step. -/
def clN (a b : Nat) : Nat → Nat
  | 0 => 0
  | i + 1 => clN a b i ^^^ (if b.testBit i then a <<< i else 0)
def rsN (n i : Nat) : Nat := n ^^^ (if n.testBit i then 283 <<< (i - 8) else 0)
def rdN (n : Nat) : Nat → Nat
  | 0 => n
  | j + 1 => rsN (rdN n j) (14 - j)
def rfN (a b : Nat) : Nat := rdN (clN a b 8) 7 % 2 ^ 8
theorem clN_linB (a : Nat) : ∀ i, Lin fun b => clN a b i
  | 0 => Lin.const0
  | i + 1 => (clN_linB a i).xor (Lin.bit i (a <<< i))
theorem clN_linA (b : Nat) : ∀ i, Lin fun a => clN a b i
  | 0 => Lin.const0
  | i + 1 => by
    refine Lin.xor (clN_linA b i) ?_
    cases b.testBit i
    · exact Lin.const0
    · exact Lin.shl i
theorem rsN_lin (i : Nat) : Lin fun n => rsN n i := Lin.id.xor (Lin.bit i (283 <<< (i - 8)))
theorem rdN_lin : ∀ j, Lin fun n => rdN n j
  | 0 => Lin.id
  | j + 1 => (rsN_lin (14 - j)).comp (rdN_lin j)
theorem rfN_linA (b : Nat) : Lin fun a => rfN a b := (Lin.mod 8).comp ((rdN_lin 7).comp (clN_linA b 8))
theorem rfN_linB (a : Nat) : Lin fun b => rfN a b := (Lin.mod 8).comp ((rdN_lin 7).comp (clN_linB a 8))
theorem rfN_mB (a b : Nat) (ha : a < 256) (hb : b < 256) : rfN a b = mB a b := by
  refine lin_ext (f := fun a => rfN a b) (g := fun a => mB a b) (rfN_linA b) (mN_linA 8 b) 8 ?_ a ha
  intro i hi
  refine lin_ext (f := fun b => rfN (2 ^ i) b) (g := fun b => mB (2 ^ i) b) (rfN_linB _) (mN_linB 8 _) 8 ?_ b hb
  intro j hj
  revert j
  revert i
  decide
theorem clN_lt (a b : Nat) (ha : a < 256) : ∀ i, i ≤ 8 → clN a b i < 2 ^ 15
  | 0, _ => by unfold clN; decide
  | i + 1, hi => by
    unfold clN
    refine Nat.xor_lt_two_pow (clN_lt a b ha i (by omega)) ?_
    split
    · rw [Nat.shiftLeft_eq]
      have h1 := Nat.pow_le_pow_right (n := 2) (by omega) (show i ≤ 7 by omega)
      calc a * 2 ^ i ≤ 255 * 2 ^ 7 := Nat.mul_le_mul (by omega) h1
        _ < 2 ^ 15 := by decide
    · decide
theorem rsN_lt (n i : Nat) (hn : n < 2 ^ 15) (hi : i ≤ 14) : rsN n i < 2 ^ 15 := by
  unfold rsN
  refine Nat.xor_lt_two_pow hn ?_
  split
  · rw [Nat.shiftLeft_eq]
    have h1 := Nat.pow_le_pow_right (n := 2) (by omega) (show i - 8 ≤ 6 by omega)
    calc 283 * 2 ^ (i - 8) ≤ 283 * 2 ^ 6 := Nat.mul_le_mul (by omega) h1
      _ < 2 ^ 15 := by decide
  · decide
theorem rdN_lt (n : Nat) (hn : n < 2 ^ 15) : ∀ j, rdN n j < 2 ^ 15
  | 0 => hn
  | j + 1 => rsN_lt _ _ (rdN_lt n hn j) (by omega)
theorem ofInt64 (a : Nat) (ha : a < 18446744073709551616) : (BitVec.ofInt 64 (a : Int)).toNat = a := by
  rw [BitVec.ofInt_natCast, BitVec.toNat_ofNat]; exact Nat.mod_eq_of_lt (by omega)
theorem i64_xorN (a b : Nat) (ha : a < 2 ^ 32) (hb : b < 2 ^ 32) : Go.bits .xor .i64 (a : Int) (b : Int) = ((a ^^^ b : Nat) : Int) := by
  have hx : a ^^^ b < 2 ^ 32 := Nat.xor_lt_two_pow ha hb
  show IntKind.i64.wrap ((BitVec.ofInt 64 (a : Int) ^^^ BitVec.ofInt 64 (b : Int)).toNat : Int) = _
  rw [BitVec.toNat_xor, ofInt64 a (by omega), ofInt64 b (by omega), IntWalk.i64_in _ (by omega)]
theorem shl_i64N (a i : Nat) (hi : i ≤ 16) (ha : a < 2 ^ 32) : shl .i64 (a : Int) (i : Int) = ((a <<< i : Nat) : Int) := by
  have hp := Nat.pow_le_pow_right (n := 2) (by omega) hi
  have hm : a * 2 ^ i ≤ a * 2 ^ 16 := Nat.mul_le_mul (Nat.le_refl _) hp
  unfold shl
  rw [show min ((i : Int)).toNat IntKind.i64.bits = i from by rw [Int.toNat_natCast]; exact Nat.min_eq_left (by show i ≤ 64; omega), Nat.shiftLeft_eq]
  have e : (a : Int) * 2 ^ i = ((a * 2 ^ i : Nat) : Int) := by rw [Int.natCast_mul, Int.natCast_pow]; rfl
  rw [e, IntWalk.i64_in _ (by omega)]
theorem shr_N (q : IntKind) (hq : 8 ≤ q.bits) (a i : Nat) (hi : i ≤ q.bits) : shr q (a : Int) (i : Int) = ((a >>> i : Nat) : Int) := by
  unfold shr
  rw [show min ((i : Int)).toNat q.bits = i from by rw [Int.toNat_natCast]; exact Nat.min_eq_left hi, Nat.shiftRight_eq_div_pow, Int.natCast_ediv, Int.natCast_pow]
  rfl
theorem bit_test (a i : Nat) : (Int.tmod ((a >>> i : Nat) : Int) 2 = 1) ↔ a.testBit i = true := by
  rw [Nat.testBit_eq_decide_div_mod_eq, decide_eq_true_eq, Nat.shiftRight_eq_div_pow, Int.tmod_eq_emod_of_nonneg (Int.natCast_nonneg _)]
  generalize a / 2 ^ i = q
  omega
theorem w64N (x : Nat) (h : x < 9223372036854775808) : wrap64 (x : Int) = (x : Int) := by unfold wrap64; omega
theorem ref_times_l1 (n : Nat) (hn : n < 2 ^ 15) : ∀ (d j k : Nat), j + d = 7 → d < k → legateref04_Times.l1 k ((rdN n j : Nat) : Int) ((14 : Int) - (j : Int)) = some ((rdN n 7 % 256 : Nat) : Int) := by
  intro d
  induction d with
  | zero =>
    intro j k hj hk
    obtain ⟨k, rfl⟩ : ∃ j, k = j + 1 := ⟨k - 1, by omega⟩
    obtain rfl : j = 7 := by omega
    rw [legateref04_Times.l1, if_neg (by omega)]
    simp
  | succ d ih =>
    intro j k hj hk
    obtain ⟨k, rfl⟩ : ∃ j, k = j + 1 := ⟨k - 1, by omega⟩
    have e1 : (14 : Int) - (j : Int) = ((14 - j : Nat) : Int) := by omega
    have e2 : wrap64 (((14 - j : Nat) : Int) - 1) = (14 : Int) - ((j + 1 : Nat) : Int) := by unfold wrap64; omega
    have e3 : wrap64 (((14 - j : Nat) : Int) - 8) = ((14 - j - 8 : Nat) : Int) := by unfold wrap64; omega
    have hl := rdN_lt n hn j
    have hs : 283 <<< (14 - j - 8) < 2 ^ 15 := by
      rw [Nat.shiftLeft_eq]
      have h1 := Nat.pow_le_pow_right (n := 2) (by omega) (show 14 - j - 8 ≤ 6 by omega)
      calc 283 * 2 ^ (14 - j - 8) ≤ 283 * 2 ^ 6 := Nat.mul_le_mul (by omega) h1
        _ < 2 ^ 15 := by decide
    rw [e1, legateref04_Times.l1, if_pos (by omega), if_pos (by omega), shr_N .i64 (by decide) _ _ (by show 14 - j ≤ 64; omega), e2, e3]
    have hr : rdN n (j + 1) = rdN n j ^^^ (if (rdN n j).testBit (14 - j) then 283 <<< (14 - j - 8) else 0) := rfl
    by_cases hb : (rdN n j).testBit (14 - j) = true
    · have h283 : shl .i64 283 ((14 - j - 8 : Nat) : Int) = ((283 <<< (14 - j - 8) : Nat) : Int) := shl_i64N 283 _ (by omega) (by decide)
      rw [if_pos ((bit_test _ _).2 hb), if_pos (by omega), h283, i64_xorN _ _ (by omega) (by omega)]
      have hr' : rdN n j ^^^ 283 <<< (14 - j - 8) = rdN n (j + 1) := by rw [hr, if_pos hb]
      rw [hr']
      exact ih (j + 1) k (by omega) (by omega)
    · rw [if_neg (fun h => hb ((bit_test _ _).1 h))]
      have hr' : rdN n j = rdN n (j + 1) := by rw [hr, if_neg hb, Nat.xor_zero]
      rw [hr']
      exact ih (j + 1) k (by omega) (by omega)
theorem ref_times_l0 (a b : Nat) (ha : a < 256) (hb : b < 256) : ∀ (d i k : Nat), i + d = 8 → d + 9 < k →
    legateref04_Times.l0 k (a : Int) (b : Int) ((clN a b i : Nat) : Int) (i : Int) = some (mB a b : Int) := by
  intro d
  induction d with
  | zero =>
    intro i k hi hk
    obtain ⟨k, rfl⟩ : ∃ j, k = j + 1 := ⟨k - 1, by omega⟩
    obtain rfl : i = 8 := by omega
    rw [legateref04_Times.l0, if_neg (by omega)]
    have := ref_times_l1 (clN a b 8) (clN_lt a b ha 8 (by omega)) 7 0 k (by omega) (by omega)
    rw [← rfN_mB a b ha hb]
    exact this
  | succ d ih =>
    intro i k hi hk
    obtain ⟨k, rfl⟩ : ∃ j, k = j + 1 := ⟨k - 1, by omega⟩
    have e1 : wrap64 ((i : Int) + 1) = ((i + 1 : Nat) : Int) := by unfold wrap64; omega
    have hl := clN_lt a b ha i (by omega)
    have hs : a <<< i < 2 ^ 15 := by
      rw [Nat.shiftLeft_eq]
      have h1 := Nat.pow_le_pow_right (n := 2) (by omega) (show i ≤ 7 by omega)
      calc a * 2 ^ i ≤ 255 * 2 ^ 7 := Nat.mul_le_mul (by omega) h1
        _ < 2 ^ 15 := by decide
    rw [legateref04_Times.l0, if_pos (by omega), if_pos (by omega), shr_N .u8 (by decide) _ _ (by show i ≤ 8; omega), e1, w64N a (by omega), shl_i64N a i (by omega) (by omega), i64_xorN _ _ (by omega) (by omega)]
    have hr : clN a b (i + 1) = clN a b i ^^^ (if b.testBit i then a <<< i else 0) := rfl
    by_cases h : b.testBit i = true
    · rw [if_pos ((bit_test _ _).2 h)]
      have hr' : clN a b i ^^^ a <<< i = clN a b (i + 1) := by rw [hr, if_pos h]
      rw [hr']
      exact ih (i + 1) k (by omega) (by omega)
    · rw [if_neg (fun h2 => h ((bit_test _ _).1 h2))]
      have hr' : clN a b i = clN a b (i + 1) := by rw [hr, if_neg h, Nat.xor_zero]
      rw [hr']
      exact ih (i + 1) k (by omega) (by omega)
/-- The reference's product is the program's. -/
theorem ref_times (k a b : Nat) (hk : 20 ≤ k) (ha : a < 256) (hb : b < 256) : legateref04_Times.f k (a : Int) (b : Int) = some (mB a b : Int) :=
  ref_times_l0 a b ha hb 8 0 k (by omega) (by omega)
end Go.Proofs.Ytkgijkfcmbpgpaa.Giv
