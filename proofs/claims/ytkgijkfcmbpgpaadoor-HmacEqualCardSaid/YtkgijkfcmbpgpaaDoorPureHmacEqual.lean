/- HmacEqual: two texts are Equal just if they are the same. -/
import Derived.Test.YtkgijkfcmbpgpaaDoorMHmac
import Derived.Test.YtkgijkfcmbpgpaaDoorMWorks03
import Derived.Test.YtkgijkfcmbpgpaaDoorPAllx12
namespace Go.Proofs.YtkgijkfcmbpgpaaDoor.Pure
open Go.RowKit Go.Proofs.YtkgijkfcmbpgpaaDoor.PAll Go.Proofs.YtkgijkfcmbpgpaaDoorW.PrintWords Go.Proofs.YtkgijkfcmbpgpaaDoorW.PrintLast
open Go.Proofs.YtkgijkfcmbpgpaaDoor.Giv

theorem xor_zero {x y : Int} (hx : 0 ≤ x ∧ x < 256) (hy : 0 ≤ y ∧ y < 256) : Go.bits .xor .u8 x y = 0 ↔ x = y := by
  rw [u8_xor x y hx.1 hx.2 hy.1 hy.2]
  constructor
  · intro h
    have e0 : x.toNat ^^^ y.toNat = 0 := by omega
    have e : x.toNat = y.toNat := by
      have e1 : (x.toNat ^^^ y.toNat) ^^^ y.toNat = x.toNat := by rw [Nat.xor_assoc, Nat.xor_self, Nat.xor_zero]
      rw [e0, Nat.zero_xor] at e1
      exact e1.symm
    omega
  · rintro rfl
    simp
theorem xor_byte (x y : Int) (hx : 0 ≤ x ∧ x < 256) (hy : 0 ≤ y ∧ y < 256) : 0 ≤ Go.bits .xor .u8 x y ∧ Go.bits .xor .u8 x y < 256 := by
  rw [u8_xor x y hx.1 hx.2 hy.1 hy.2]
  have := Nat.xor_lt_two_pow (n := 8) (show x.toNat < 2 ^ 8 by omega) (show y.toNat < 2 ^ 8 by omega)
  omega
theorem or_zero {x y : Int} (hx : 0 ≤ x ∧ x < 256) (hy : 0 ≤ y ∧ y < 256) : Go.bits .or .u8 x y = 0 ↔ x = 0 ∧ y = 0 := by
  rw [u8_or x y hx.1 hx.2 hy.1 hy.2]
  have := Nat.or_eq_zero_iff (n := x.toNat) (m := y.toNat)
  omega
theorem or_byte (x y : Int) (hx : 0 ≤ x ∧ x < 256) (hy : 0 ≤ y ∧ y < 256) : 0 ≤ Go.bits .or .u8 x y ∧ Go.bits .or .u8 x y < 256 := by
  rw [u8_or x y hx.1 hx.2 hy.1 hy.2]
  have := Nat.or_lt_two_pow (n := 8) (show x.toNat < 2 ^ 8 by omega) (show y.toNat < 2 ^ 8 by omega)
  omega
open Classical in
theorem equal_l0 (a b : ByteArray) (hs : a.size = b.size) (ha : a.size ≤ 140737488351232) : ∀ (n m k : Nat) (d : Int), m + n = a.size → n < k → 0 ≤ d ∧ d < 256 →
    hmac_Equal.l0 k a b d (a.size : Int) (m : Int) = some (decide (d = 0 ∧ ∀ j : Nat, m ≤ j → j < a.size → bt a (j : Int) = bt b (j : Int))) := by
  intro n
  induction n with
  | zero =>
    intro m k d hm hk hd
    obtain ⟨k, rfl⟩ : ∃ j, k = j + 1 := ⟨k - 1, by omega⟩
    simp only [hmac_Equal.l0]
    rw [if_neg (by omega)]
    congr 1
    by_cases h : d = 0
    · subst h
      simp only [BEq.rfl]
      exact (decide_eq_true ⟨trivial, fun j h1 h2 => by omega⟩).symm
    · rw [decide_eq_false (fun h2 => h h2.1)]
      simpa using h
  | succ n ih =>
    intro m k d hm hk hd
    obtain ⟨k, rfl⟩ : ∃ j, k = j + 1 := ⟨k - 1, by omega⟩
    simp only [hmac_Equal.l0]
    have e : wrap64 ((m : Int) + 1) = ((m + 1 : Nat) : Int) := by unfold wrap64; omega
    have h1 := bt_byte a (m : Int)
    have h2 := bt_byte b (m : Int)
    have h3 := xor_byte _ _ h1 h2
    rw [if_pos (by omega), if_pos (by omega), if_pos (by omega), if_pos (by omega), e, ih (m + 1) k _ (by omega) (by omega) (or_byte _ _ hd h3)]
    congr 1
    apply decide_eq_decide.2
    rw [or_zero hd h3, xor_zero h1 h2]
    constructor
    · rintro ⟨⟨h4, h5⟩, h6⟩
      refine ⟨h4, fun j h7 h8 => ?_⟩
      by_cases hj : j = m
      · rw [hj]; exact h5
      · exact h6 j (by omega) h8
    · rintro ⟨h4, h5⟩
      exact ⟨⟨h4, h5 m (by omega) (by omega)⟩, fun j h7 h8 => h5 j (by omega) h8⟩
theorem equal_some (a b : ByteArray) (ha : a.size ≤ 140737488351232) (k : Nat) (hk : a.size < k) : hmac_Equal.f k a b = some (decide (a = b)) := by
  unfold hmac_Equal.f
  by_cases hs : a.size = b.size
  · rw [if_pos (by omega), show (0 : Int) = ((0 : Nat) : Int) from rfl, equal_l0 a b hs ha a.size 0 k ((0 : Nat) : Int) (by omega) hk (by omega)]
    congr 1
    apply decide_eq_decide.2
    constructor
    · rintro ⟨_, h⟩
      exact bt_ext hs fun j hj => h j (by omega) hj
    · rintro rfl
      exact ⟨rfl, fun _ _ _ => rfl⟩
  · rw [if_neg (by omega)]
    have : a ≠ b := fun e => hs (by rw [e])
    simp [this]

theorem HmacEqual : legatelaw03_HmacEqual.Pure := by
  intro a b ha hb
  refine ⟨a.size + b.size + 1000, ?_⟩
  unfold legatelaw03_HmacEqual.f
  rw [works03 _ (by omega)]
  simp only [Option.bind_some, if_true]
  rw [equal_some a b ha _ (by omega), equal_some b a hb _ (by omega), equal_some a a ha _ (by omega)]
  simp only [Option.bind_some, toList_beq]
  have e : decide (b = a) = decide (a = b) := decide_eq_decide.2 ⟨Eq.symm, Eq.symm⟩
  rw [e]
  simp

end Go.Proofs.YtkgijkfcmbpgpaaDoor.Pure
