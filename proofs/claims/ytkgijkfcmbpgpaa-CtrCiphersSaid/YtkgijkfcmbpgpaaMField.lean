/- The field of bytes: products by shifts and sums, over natural numbers. -/
namespace Go.Proofs.Ytkgijkfcmbpgpaa.Giv
/-- A byte times x. -/
def tN (x : Nat) : Nat := (x <<< 1) % 2 ^ 8 ^^^ (if x.testBit 7 then 27 else 0)
def mN : Nat → Nat → Nat → Nat
  | 0, _, _ => 0
  | n + 1, a, b => (if b % 2 = 1 then a else 0) ^^^ mN n (tN a) (b / 2)
/-- A product. -/
def mB (a b : Nat) : Nat := mN 8 a b
def Lin (f : Nat → Nat) : Prop := ∀ x y, f (x ^^^ y) = f x ^^^ f y
theorem xor4 (a b c d : Nat) : (a ^^^ b) ^^^ (c ^^^ d) = (a ^^^ c) ^^^ (b ^^^ d) := by
  rw [Nat.xor_assoc, Nat.xor_assoc]; congr 1; rw [← Nat.xor_assoc, ← Nat.xor_assoc, Nat.xor_comm b c]
theorem Lin.zero {f : Nat → Nat} (h : Lin f) : f 0 = 0 := by
  have := h 0 0
  simpa using this
theorem Lin.comp {f g : Nat → Nat} (hf : Lin f) (hg : Lin g) : Lin fun x => f (g x) := fun x y => by
  show f (g (x ^^^ y)) = _; rw [hg, hf]
theorem Lin.xor {f g : Nat → Nat} (hf : Lin f) (hg : Lin g) : Lin fun x => f x ^^^ g x := fun x y => by
  show f (x ^^^ y) ^^^ g (x ^^^ y) = _; rw [hf, hg, xor4]
theorem Lin.bit (i c : Nat) : Lin fun x => if x.testBit i then c else 0 := fun x y => by
  show (if (x ^^^ y).testBit i then c else 0) = _
  rw [Nat.testBit_xor]
  cases hx : x.testBit i <;> cases hy : y.testBit i <;> simp [hx, hy]
theorem Lin.shl (k : Nat) : Lin fun x => x <<< k := fun _ _ => Nat.shiftLeft_xor_distrib
theorem Lin.shr (k : Nat) : Lin fun x => x >>> k := fun _ _ => Nat.shiftRight_xor_distrib
theorem Lin.mod (k : Nat) : Lin fun x => x % 2 ^ k := fun _ _ => Nat.xor_mod_two_pow
theorem Lin.id : Lin fun x => x := fun _ _ => rfl
theorem Lin.const0 : Lin fun _ => 0 := fun _ _ => by simp
theorem tN_lin : Lin tN := ((Lin.mod 8).comp (Lin.shl 1)).xor (Lin.bit 7 27)
theorem mN_linA : ∀ n b, Lin fun a => mN n a b
  | 0, b => Lin.const0
  | n + 1, b => by
    show Lin fun a => (if b % 2 = 1 then a else 0) ^^^ mN n (tN a) (b / 2)
    refine Lin.xor ?_ ((mN_linA n (b / 2)).comp tN_lin)
    by_cases h : b % 2 = 1
    · simp only [if_pos h]; exact Lin.id
    · simp only [if_neg h]; exact Lin.const0
theorem mN_linB : ∀ n a, Lin fun b => mN n a b
  | 0, a => Lin.const0
  | n + 1, a => by
    show Lin fun b => (if b % 2 = 1 then a else 0) ^^^ mN n (tN a) (b / 2)
    refine Lin.xor ?_ ((mN_linB n (tN a)).comp (fun x y => Nat.xor_div_two))
    have := Lin.bit 0 a
    simpa [Nat.testBit_zero] using this
/-- Two sums are the same if they are so at the powers of two. -/
theorem lin_ext {f g : Nat → Nat} (hf : Lin f) (hg : Lin g) : ∀ n, (∀ i, i < n → f (2 ^ i) = g (2 ^ i)) → ∀ x, x < 2 ^ n → f x = g x
  | 0, _, x, hx => by
    obtain rfl : x = 0 := by simpa using hx
    rw [hf.zero, hg.zero]
  | n + 1, h, x, hx => by
    have ih := lin_ext hf hg n (fun i hi => h i (by omega))
    by_cases hl : x < 2 ^ n
    · exact ih x hl
    · have hy : x - 2 ^ n < 2 ^ n := by rw [Nat.pow_succ] at hx; omega
      have e : x = 2 ^ n ^^^ (x - 2 ^ n) := by
        have e1 : x = 2 ^ n * 1 + (x - 2 ^ n) := by omega
        have e2 := Nat.two_pow_add_eq_or_of_lt hy 1
        rw [← e1] at e2
        rw [Nat.mul_one] at e2
        rw [e2]
        apply Nat.eq_of_testBit_eq
        intro i
        have e3 : (2 ^ n ||| (x - 2 ^ n)) - 2 ^ n = x - 2 ^ n := by rw [← e2]
        rw [e3]
        simp only [Nat.testBit_or, Nat.testBit_xor, Nat.testBit_two_pow]
        by_cases hi : n = i
        · subst hi; rw [Nat.testBit_lt_two_pow hy]; simp
        · simp [hi]
      rw [e, hf, hg, h n (by omega), ih _ hy]
theorem tN_lt (x : Nat) : tN x < 256 := by
  unfold tN
  refine Nat.xor_lt_two_pow (n := 8) (Nat.mod_lt _ (by decide)) ?_
  split <;> decide
theorem mB_comm (a b : Nat) (ha : a < 256) (hb : b < 256) : mB a b = mB b a := by
  refine lin_ext (f := fun a => mB a b) (g := fun a => mB b a) (mN_linA 8 b) (mN_linB 8 b) 8 ?_ a ha
  intro i hi
  refine lin_ext (f := fun b => mB (2 ^ i) b) (g := fun b => mB b (2 ^ i)) (mN_linB 8 _) (mN_linA 8 _) 8 ?_ b hb
  intro j hj
  revert j
  revert i
  decide
theorem mB_assoc (a b c : Nat) (ha : a < 256) (hb : b < 256) (hc : c < 256) : mB (mB a b) c = mB a (mB b c) := by
  refine lin_ext (f := fun a => mB (mB a b) c) (g := fun a => mB a (mB b c)) ((mN_linA 8 c).comp (mN_linA 8 b)) (mN_linA 8 _) 8 ?_ a ha
  intro i hi
  refine lin_ext (f := fun b => mB (mB (2 ^ i) b) c) (g := fun b => mB (2 ^ i) (mB b c)) ((mN_linA 8 c).comp (mN_linB 8 _)) ((mN_linB 8 _).comp (mN_linA 8 c)) 8 ?_ b hb
  intro j hj
  refine lin_ext (f := fun c => mB (mB (2 ^ i) (2 ^ j)) c) (g := fun c => mB (2 ^ i) (mB (2 ^ j) c)) (mN_linB 8 _) ((mN_linB 8 _).comp (mN_linB 8 _)) 8 ?_ c hc
  intro k hk
  revert k
  revert j
  revert i
  decide
theorem mB_one (a : Nat) : mB a 1 = a := by
  simp [mB, mN]
theorem mN_zeroB : ∀ n a, mN n a 0 = 0 := fun n a => (mN_linB n a).zero
theorem mB_two (a : Nat) : mB a 2 = tN a := by simp [mB, mN]
theorem mB_three (a : Nat) : mB a 3 = a ^^^ tN a := by simp [mB, mN]
/-- The one whose product is 1: the power 254. -/
def inN (a : Nat) : Nat :=
  let a2 := mB a a
  let a3 := mB a2 a
  let a6 := mB a3 a3
  let a12 := mB a6 a6
  let a15 := mB a12 a3
  let a30 := mB a15 a15
  let a60 := mB a30 a30
  let a120 := mB a60 a60
  let a126 := mB a120 a6
  let a127 := mB a126 a
  mB a127 a127
end Go.Proofs.Ytkgijkfcmbpgpaa.Giv
