/- The reference's keys and its encryption: the same as the program's. -/
import Derived.Test.YtkgijkfcmbpgpaaMAes2
import Derived.Test.YtkgijkfcmbpgpaaPAllx4
namespace Go.Proofs.Ytkgijkfcmbpgpaa.Giv
open Go.RowKit Go.Proofs.YtkgijkfcmbpgpaaW.PrintWords Go.Proofs.YtkgijkfcmbpgpaaW.PrintLast Go.Proofs.YtkgijkfcmbpgpaaW.PrintMore Go.Proofs.Ytkgijkfcmbpgpaa.PAll
set_option linter.unusedVariables false
set_option linter.unusedSimpArgs false

/-- A row of which the first n are new. -/
def bl (f : Nat → Int) (s : List Int) (n : Nat) : List Int := (List.range s.length).map fun i => if i < n then f i else s.getD i 0
theorem bl_len (f : Nat → Int) (s : List Int) (n : Nat) : (bl f s n).length = s.length := by simp [bl]
theorem bl_at (f : Nat → Int) (s : List Int) (n i : Nat) (hi : i < s.length) : (bl f s n).getD i 0 = if i < n then f i else s.getD i 0 := by
  simp [bl, List.getD_eq_getElem?_getD, hi]
theorem list_ext {a b : List Int} (hl : a.length = b.length) (h : ∀ i, i < a.length → a.getD i 0 = b.getD i 0) : a = b := by
  apply List.ext_getElem hl
  intro i h1 h2
  have := h i h1
  simpa [List.getD_eq_getElem?_getD, h1, h2] using this
theorem set_at (L : List Int) (i j : Nat) (x : Int) (hj : j < L.length) : (L.set i x).getD j 0 = if i = j then x else L.getD j 0 := by
  by_cases h : i = j
  · subst h; simp [List.getD_eq_getElem?_getD, hj]
  · simp [List.getD_eq_getElem?_getD, h]
theorem bl_zero (f : Nat → Int) (s : List Int) : bl f s 0 = s := by
  refine list_ext (bl_len _ _ _) fun i hi => ?_
  rw [bl_len] at hi
  rw [bl_at f s 0 i hi, if_neg (by omega)]
theorem bl_set (f : Nat → Int) (s : List Int) (n : Nat) : (bl f s n).set n (f n) = bl f s (n + 1) := by
  refine list_ext (by rw [List.length_set, bl_len, bl_len]) fun i hi => ?_
  rw [List.length_set, bl_len] at hi
  rw [set_at _ _ _ _ (by rw [bl_len]; exact hi), bl_at f s n i hi, bl_at f s (n + 1) i hi]
  by_cases h : n = i
  · subst h; rw [if_pos rfl, if_pos (by omega)]
  · rw [if_neg h]
    by_cases h2 : i < n
    · rw [if_pos h2, if_pos (by omega)]
    · rw [if_neg h2, if_neg (by omega)]
theorem bl_full {f g : Nat → Int} {s s' : List Int} (hl : s.length = s'.length) (n : Nat) (hn : s.length ≤ n) (h : ∀ i, i < s.length → f i = g i) : bl f s n = bl g s' n := by
  refine list_ext (by rw [bl_len, bl_len, hl]) fun i hi => ?_
  rw [bl_len] at hi
  rw [bl_at f s n i hi, bl_at g s' n i (by omega), if_pos (by omega), if_pos (by omega), h i hi]
theorem rdN' (L : List Int) (i : Nat) : rd L (i : Int) = L.getD i 0 := by unfold rd; rw [Int.toNat_natCast]
theorem U8s.get {L : List Int} (h : U8s L) (i : Nat) : ∃ n : Nat, n < 256 ∧ L.getD i 0 = (n : Int) := nat_of_u8 (by
  by_cases hi : i < L.length
  · rw [List.getD_eq_getElem?_getD, List.getElem?_eq_getElem hi]
    exact h _ (List.getElem_mem hi)
  · rw [List.getD_eq_getElem?_getD, List.getElem?_eq_none (by omega)]
    unfold U8; simp)

/-! The program's steps, as rows. -/
theorem adS_bl (s K : List Int) : ∀ k, k ≤ s.length → adS s K k = bl (fun i => x8 (s.getD i 0) (K.getD i 0)) s k
  | 0, _ => (bl_zero _ s).symm
  | k + 1, h => by
    have ih := adS_bl s K k (by omega)
    rw [adS, ih, bl_at _ _ _ _ (by omega), if_neg (by omega)]
    exact bl_set (fun i => x8 (s.getD i 0) (K.getD i 0)) s k
theorem shS_bl (s t : List Int) : ∀ k, shS s t k = bl (fun i => t.getD (s.getD (shJ i) 0).toNat 0) s k
  | 0 => (bl_zero _ s).symm
  | k + 1 => by
    rw [shS, shS_bl s t k]
    exact bl_set (fun i => t.getD (s.getD (shJ i) 0).toNat 0) s k
/-- One byte of a mixed column. -/
def mxV (s : List Int) (i : Nat) : Int :=
  x8 (s.getD i 0) (x8 (x8 (x8 (x8 (s.getD (4 * (i / 4)) 0) (s.getD (4 * (i / 4) + 1) 0)) (s.getD (4 * (i / 4) + 2) 0)) (s.getD (4 * (i / 4) + 3) 0)) (tw (x8 (s.getD i 0) (s.getD (4 * (i / 4) + (i % 4 + 1) % 4) 0))))
theorem mxS_bl (s : List Int) (hs : s.length = 16) : ∀ k, k ≤ 4 → mxS s k = bl (mxV s) s (4 * k)
  | 0, _ => (bl_zero _ s).symm
  | k + 1, h => by
    have ih := mxS_bl s hs k (by omega)
    have g : ∀ i, 4 * k ≤ i → i < 16 → (bl (mxV s) s (4 * k)).getD i 0 = s.getD i 0 := fun i h1 h2 => by rw [bl_at _ _ _ _ (by omega), if_neg (by omega)]
    have v0 : mxV s (4 * k) = x8 (s.getD (4 * k) 0) (x8 (x8 (x8 (x8 (s.getD (4 * k) 0) (s.getD (4 * k + 1) 0)) (s.getD (4 * k + 2) 0)) (s.getD (4 * k + 3) 0)) (tw (x8 (s.getD (4 * k) 0) (s.getD (4 * k + 1) 0)))) := by
      unfold mxV; rw [show 4 * k / 4 = k from by omega, show (4 * k % 4 + 1) % 4 = 1 from by omega]
    have v1 : mxV s (4 * k + 1) = x8 (s.getD (4 * k + 1) 0) (x8 (x8 (x8 (x8 (s.getD (4 * k) 0) (s.getD (4 * k + 1) 0)) (s.getD (4 * k + 2) 0)) (s.getD (4 * k + 3) 0)) (tw (x8 (s.getD (4 * k + 1) 0) (s.getD (4 * k + 2) 0)))) := by
      unfold mxV; rw [show (4 * k + 1) / 4 = k from by omega, show ((4 * k + 1) % 4 + 1) % 4 = 2 from by omega]
    have v2 : mxV s (4 * k + 2) = x8 (s.getD (4 * k + 2) 0) (x8 (x8 (x8 (x8 (s.getD (4 * k) 0) (s.getD (4 * k + 1) 0)) (s.getD (4 * k + 2) 0)) (s.getD (4 * k + 3) 0)) (tw (x8 (s.getD (4 * k + 2) 0) (s.getD (4 * k + 3) 0)))) := by
      unfold mxV; rw [show (4 * k + 2) / 4 = k from by omega, show ((4 * k + 2) % 4 + 1) % 4 = 3 from by omega]
    have v3 : mxV s (4 * k + 3) = x8 (s.getD (4 * k + 3) 0) (x8 (x8 (x8 (x8 (s.getD (4 * k) 0) (s.getD (4 * k + 1) 0)) (s.getD (4 * k + 2) 0)) (s.getD (4 * k + 3) 0)) (tw (x8 (s.getD (4 * k + 3) 0) (s.getD (4 * k) 0)))) := by
      unfold mxV; rw [show (4 * k + 3) / 4 = k from by omega, show ((4 * k + 3) % 4 + 1) % 4 = 0 from by omega]; simp only [Nat.add_zero]
    rw [mxS, ih, mxRow, mx4, g (4 * k) (by omega) (by omega), g (4 * k + 1) (by omega) (by omega), g (4 * k + 2) (by omega) (by omega), g (4 * k + 3) (by omega) (by omega), ← v0, ← v1, ← v2, ← v3,
      bl_set, bl_set, bl_set, bl_set, show 4 * (k + 1) = 4 * k + 4 from by omega]

/-! Sums and products of the reference. -/
theorem x8N (a b : Nat) (ha : a < 256) (hb : b < 256) : x8 (a : Int) (b : Int) = ((a ^^^ b : Nat) : Int) := u8_xor_nat a b ha hb
theorem mix_same (a b c d : Nat) : a ^^^ ((a ^^^ b ^^^ c ^^^ d) ^^^ tN (a ^^^ b)) = ((tN a ^^^ (b ^^^ tN b)) ^^^ c) ^^^ d := by
  rw [tN_lin a b]
  apply Nat.eq_of_testBit_eq
  intro i
  simp only [Nat.testBit_xor]
  cases a.testBit i <;> cases b.testBit i <;> cases c.testBit i <;> cases d.testBit i <;> cases (tN a).testBit i <;> cases (tN b).testBit i <;> rfl
/-- One byte of the reference's mixed column. -/
theorem ref_mix (k : Nat) (hk : 20 ≤ k) (s : List Int) (h : U8s s) (hs : s.length = 16) (c r : Nat) (hc : c < 4) (hr : r < 4) :
    ∃ p q, legateref04_Times.f k (s.getD (4 * c + r) 0) 2 = some p ∧ legateref04_Times.f k (s.getD (4 * c + (r + 1) % 4) 0) 3 = some q ∧
      Go.bits .xor .u8 (Go.bits .xor .u8 (Go.bits .xor .u8 p q) (s.getD (4 * c + (r + 2) % 4) 0)) (s.getD (4 * c + (r + 3) % 4) 0) = mxV s (4 * c + r) := by
  obtain ⟨a, ha, ea⟩ := h.get (4 * c + r)
  obtain ⟨b, hb, eb⟩ := h.get (4 * c + (r + 1) % 4)
  obtain ⟨x, hx, ex⟩ := h.get (4 * c + (r + 2) % 4)
  obtain ⟨y, hy, ey⟩ := h.get (4 * c + (r + 3) % 4)
  have t2 := ref_times k a 2 hk ha (by omega)
  have t3 := ref_times k b 3 hk hb (by omega)
  rw [mB_two] at t2
  rw [mB_three] at t3
  have l1 := tN_lt a
  have l2 := xor_lt hb (tN_lt b)
  refine ⟨_, _, by rw [ea]; exact t2, by rw [eb]; exact t3, ?_⟩
  rw [ex, ey, u8_xor_nat _ _ l1 l2, u8_xor_nat _ _ (xor_lt l1 l2) hx, u8_xor_nat _ _ (xor_lt (xor_lt l1 l2) hx) hy, ← mix_same a b x y]
  have z : x8 (x8 (x8 (s.getD (4 * c) 0) (s.getD (4 * c + 1) 0)) (s.getD (4 * c + 2) 0)) (s.getD (4 * c + 3) 0) = ((a ^^^ b ^^^ x ^^^ y : Nat) : Int) := by
    have h4 : r = 0 ∨ r = 1 ∨ r = 2 ∨ r = 3 := by omega
    have A : ∀ p q u v : Nat, p < 256 → q < 256 → u < 256 → v < 256 → x8 (x8 (x8 (p : Int) (q : Int)) (u : Int)) (v : Int) = ((p ^^^ q ^^^ u ^^^ v : Nat) : Int) := fun p q u v h1 h2 h3 h4 => by
      rw [x8N _ _ h1 h2, x8N _ _ (xor_lt h1 h2) h3, x8N _ _ (xor_lt (xor_lt h1 h2) h3) h4]
    rcases h4 with rfl | rfl | rfl | rfl
    · simp only [Nat.add_zero, Nat.reduceAdd, Nat.reduceMod] at ea eb ex ey
      rw [ea, eb, ex, ey, A _ _ _ _ ha hb hx hy]
    · simp only [Nat.add_zero, Nat.reduceAdd, Nat.reduceMod] at ea eb ex ey
      rw [ea, eb, ex, ey, A _ _ _ _ hy ha hb hx]
      congr 1
      ac_rfl
    · simp only [Nat.add_zero, Nat.reduceAdd, Nat.reduceMod] at ea eb ex ey
      rw [ea, eb, ex, ey, A _ _ _ _ hx hy ha hb]
      congr 1
      ac_rfl
    · simp only [Nat.add_zero, Nat.reduceAdd, Nat.reduceMod] at ea eb ex ey
      rw [ea, eb, ex, ey, A _ _ _ _ hb hx hy ha]
      congr 1
      ac_rfl
  have m1 : (4 * c + r) / 4 = c := by omega
  have m2 : ((4 * c + r) % 4 + 1) % 4 = (r + 1) % 4 := by omega
  have zl : a ^^^ b ^^^ x ^^^ y < 256 := xor_lt (xor_lt (xor_lt ha hb) hx) hy
  unfold mxV
  rw [m1, m2, z, ea, eb, x8N a b ha hb, tw_nat _ (xor_lt ha hb), x8N _ _ zl (tN_lt _), x8N _ _ ha (xor_lt zl (tN_lt _))]

/-! The reference's rounds. -/
def z16 : List Int := List.replicate 16 0
theorem z16_len : z16.length = 16 := rfl
theorem w64I {x : Int} (h0 : 0 ≤ x) (h1 : x < 9223372036854775808) : wrap64 x = x := by unfold wrap64; omega
theorem rl6 (T : List Int) (Kb : ByteArray) (R : Nat) (hR : R ≤ 10) (hK : Kb.size = 176) (U S : List Int) (hU : U.length = 16) (hS : S.length = 16) : ∀ (d n k : Nat), n + d = 16 →
    legateref04_Encrypt.l6 (k + d + 1) T Kb (bl (fun i => Go.bits .xor .u8 (U.getD i 0) (bt Kb ((16 * R + i : Nat) : Int))) S n) (R : Int) U (n : Int) = legateref04_Encrypt.l1 k T Kb (bl (fun i => Go.bits .xor .u8 (U.getD i 0) (bt Kb ((16 * R + i : Nat) : Int))) S 16) ((R + 1 : Nat) : Int) := by
  intro d
  induction d with
  | zero =>
    intro n k hn
    obtain rfl : n = 16 := by omega
    have e : wrap64 ((R : Int) + 1) = ((R + 1 : Nat) : Int) := by unfold wrap64; omega
    rw [Nat.add_zero, legateref04_Encrypt.l6, if_neg (by omega), e]
  | succ d ih =>
    intro n k hn
    have e1 : wrap64 (16 * (R : Int)) = ((16 * R : Nat) : Int) := by unfold wrap64; omega
    have e2 : wrap64 (((16 * R : Nat) : Int) + (n : Int)) = ((16 * R + n : Nat) : Int) := by unfold wrap64; omega
    have e3 : wrap64 ((n : Int) + 1) = ((n + 1 : Nat) : Int) := by unfold wrap64; omega
    rw [show k + (d + 1) + 1 = (k + d + 1) + 1 from by omega, legateref04_Encrypt.l6, e1, e2, e3, if_pos (by omega), if_pos (by omega), if_pos (by omega), if_pos (by omega), if_pos (by omega), if_pos (by rw [bl_len]; omega), Int.toNat_natCast, rdN', bl_set (fun i => Go.bits .xor .u8 (U.getD i 0) (bt Kb ((16 * R + i : Nat) : Int)))]
    exact ih (n + 1) k (by omega)
theorem col_ix (c r j : Nat) (x : Int) (hx : x = (j : Int)) (hc : c < 4) (hr : r < 4) (hj : j < 4) : wrap64 (((4 * c : Nat) : Int) + Int.tmod (wrap64 ((r : Int) + x)) 4) = ((4 * c + (r + j) % 4 : Nat) : Int) := by
  subst hx
  rw [w64I (x := (r : Int) + (j : Int)) (by omega) (by omega), Int.tmod_eq_emod_of_nonneg (by omega), w64I (by omega) (by omega)]
  omega
/-- What a round's last but one step makes. -/
def uF (A : List Int) (R i : Nat) : Int := if R < 10 then mxV A i else A.getD i 0
theorem rl5 (T : List Int) (Kb : ByteArray) (S : List Int) (R : Nat) (A : List Int) (hA : A.length = 16) (h8 : U8s A) (c : Nat) (hc : c < 4) : ∀ (d r k : Nat), r + d = 4 → 20 ≤ k →
    legateref04_Encrypt.l5 (k + d + 1) T Kb S (R : Int) A (bl (uF A R) z16 (4 * c + r)) (c : Int) (r : Int) = legateref04_Encrypt.l4 k T Kb S (R : Int) A (bl (uF A R) z16 (4 * (c + 1))) ((c + 1 : Nat) : Int) := by
  intro d
  induction d with
  | zero =>
    intro r k hr hk
    obtain rfl : r = 4 := by omega
    have e : wrap64 ((c : Int) + 1) = ((c + 1 : Nat) : Int) := by unfold wrap64; omega
    rw [Nat.add_zero, legateref04_Encrypt.l5, if_neg (by omega), e]
    rfl
  | succ d ih =>
    intro r k hr hk
    have e1 : wrap64 (4 * (c : Int)) = ((4 * c : Nat) : Int) := by unfold wrap64; omega
    have e2 : wrap64 (((4 * c : Nat) : Int) + (r : Int)) = ((4 * c + r : Nat) : Int) := by unfold wrap64; omega
    have e3 : wrap64 ((r : Int) + 1) = ((r + 1 : Nat) : Int) := by unfold wrap64; omega
    have hz := z16_len
    rw [show k + (d + 1) + 1 = (k + d + 1) + 1 from by omega, legateref04_Encrypt.l5, e1, e2, if_pos (by omega), if_pos (by omega), if_pos (by omega), if_pos (by rw [bl_len]; omega)]
    simp only [Option.bind_some]
    by_cases hR : R < 10
    · obtain ⟨p, q, hp, hq, hv⟩ := ref_mix (k + d + 1) (by omega) A h8 hA c r hc (by omega)
      have hr4 : r < 4 := by omega
      have h1_ : (1 : Int) = ((1 : Nat) : Int) := by omega
      have h2_ : (2 : Int) = ((2 : Nat) : Int) := by omega
      have h3_ : (3 : Int) = ((3 : Nat) : Int) := by omega
      have h1l : 1 < 4 := by omega
      have h2l : 2 < 4 := by omega
      have h3l : 3 < 4 := by omega
      have F1 := Aside0.mk (show wrap64 (((4 * c : Nat) : Int) + Int.tmod (wrap64 ((r : Int) + 1)) 4) = ((4 * c + (r + 1) % 4 : Nat) : Int) from col_ix c r 1 1 h1_ hc hr4 h1l)
      have F2 := Aside0.mk (show wrap64 (((4 * c : Nat) : Int) + Int.tmod (wrap64 ((r : Int) + 2)) 4) = ((4 * c + (r + 2) % 4 : Nat) : Int) from col_ix c r 2 2 h2_ hc hr4 h2l)
      have F3 := Aside0.mk (show wrap64 (((4 * c : Nat) : Int) + Int.tmod (wrap64 ((r : Int) + 3)) 4) = ((4 * c + (r + 3) % 4 : Nat) : Int) from col_ix c r 3 3 h3_ hc hr4 h3l)
      have hu : uF A R (4 * c + r) = mxV A (4 * c + r) := by unfold uF; rw [if_pos hR]
      rw [if_pos (by omega), F1.out, F2.out, F3.out, rdN', rdN', rdN', rdN', hp]
      simp only [Option.bind_some]
      rw [if_pos (by omega), if_pos (by omega), hq]
      simp only [Option.bind_some]
      rw [if_pos (by omega), if_pos (by omega), if_pos (by omega), if_pos (by omega), hv, Int.toNat_natCast, List.set_set, ← hu, bl_set (uF A R), e3]
      exact ih (r + 1) k (by omega) hk
    · have hu : uF A R (4 * c + r) = A.getD (4 * c + r) 0 := by unfold uF; rw [if_neg hR]
      rw [if_neg (by omega), rdN', Int.toNat_natCast, ← hu, bl_set (uF A R), e3]
      exact ih (r + 1) k (by omega) hk
theorem rl4 (T : List Int) (Kb : ByteArray) (S : List Int) (R : Nat) (A : List Int) (hA : A.length = 16) (h8 : U8s A) : ∀ (d c k : Nat), c + d = 4 → 20 ≤ k →
    legateref04_Encrypt.l4 (k + 6 * d + 1) T Kb S (R : Int) A (bl (uF A R) z16 (4 * c)) (c : Int) = legateref04_Encrypt.l6 k T Kb S (R : Int) (bl (uF A R) z16 16) 0 := by
  intro d
  induction d with
  | zero =>
    intro c k hc hk
    obtain rfl : c = 4 := by omega
    rw [show k + 6 * 0 + 1 = k + 1 from by omega, legateref04_Encrypt.l4, if_neg (by omega)]
  | succ d ih =>
    intro c k hc hk
    rw [show k + 6 * (d + 1) + 1 = (k + 6 * d + 1 + 4 + 1) + 1 from by omega, legateref04_Encrypt.l4, if_pos (by omega)]
    have := rl5 T Kb S R A hA h8 c (by omega) 4 0 (k + 6 * d + 1) (by omega) (by omega)
    rw [Nat.add_zero] at this
    exact this.trans (ih (c + 1) k (by omega) hk)
/-- What a round's first step makes. -/
def aF (T S : List Int) (i : Nat) : Int := T.getD (S.getD (shJ i) 0).toNat 0
theorem rl3 (T : List Int) (hT : T.length = 256) (Kb : ByteArray) (S : List Int) (hS : S.length = 16) (h8 : U8s S) (R : Nat) (c : Nat) (hc : c < 4) : ∀ (d r k : Nat), r + d = 4 →
    legateref04_Encrypt.l3 (k + d + 1) T Kb S (R : Int) (bl (aF T S) z16 (4 * c + r)) (c : Int) (r : Int) = legateref04_Encrypt.l2 k T Kb S (R : Int) (bl (aF T S) z16 (4 * (c + 1))) ((c + 1 : Nat) : Int) := by
  intro d
  induction d with
  | zero =>
    intro r k hr
    obtain rfl : r = 4 := by omega
    have e : wrap64 ((c : Int) + 1) = ((c + 1 : Nat) : Int) := by unfold wrap64; omega
    rw [Nat.add_zero, legateref04_Encrypt.l3, if_neg (by omega), e]
    rfl
  | succ d ih =>
    intro r k hr
    have e1 : wrap64 (4 * (c : Int)) = ((4 * c : Nat) : Int) := by unfold wrap64; omega
    have e2 : wrap64 (((4 * c : Nat) : Int) + (r : Int)) = ((4 * c + r : Nat) : Int) := by unfold wrap64; omega
    have e3 : wrap64 ((r : Int) + 1) = ((r + 1 : Nat) : Int) := by unfold wrap64; omega
    have e4 : wrap64 ((wrap64 (4 * (Int.tmod (wrap64 ((c : Int) + (r : Int))) 4))) + (r : Int)) = ((shJ (4 * c + r) : Nat) : Int) := by
      rw [w64I (x := (c : Int) + (r : Int)) (by omega) (by omega), Int.tmod_eq_emod_of_nonneg (by omega), w64I (x := 4 * (((c : Int) + (r : Int)) % 4)) (by omega) (by omega), w64I (by omega) (by omega)]
      unfold shJ
      omega
    have hj : shJ (4 * c + r) < 16 := by unfold shJ; omega
    have hz := z16_len
    obtain ⟨v, hv, ev⟩ := h8.get (shJ (4 * c + r))
    rw [show k + (d + 1) + 1 = (k + d + 1) + 1 from by omega, legateref04_Encrypt.l3, e4, e1, e2, e3, rdN', if_pos (by omega), if_pos (by omega), if_pos (by omega), if_pos (by rw [ev]; omega), if_pos (by rw [ev]; omega), if_pos (by omega), if_pos (by rw [bl_len]; omega), Int.toNat_natCast]
    have hr2 : rd T (S.getD (shJ (4 * c + r)) 0) = aF T S (4 * c + r) := rfl
    rw [hr2, bl_set (aF T S)]
    exact ih (r + 1) k (by omega)
theorem rl2 (T : List Int) (hT : T.length = 256) (Kb : ByteArray) (S : List Int) (hS : S.length = 16) (h8 : U8s S) (R : Nat) : ∀ (d c k : Nat), c + d = 4 →
    legateref04_Encrypt.l2 (k + 6 * d + 1) T Kb S (R : Int) (bl (aF T S) z16 (4 * c)) (c : Int) = legateref04_Encrypt.l4 k T Kb S (R : Int) (bl (aF T S) z16 16) z16 0 := by
  intro d
  induction d with
  | zero =>
    intro c k hc
    obtain rfl : c = 4 := by omega
    rw [show k + 6 * 0 + 1 = k + 1 from by omega, legateref04_Encrypt.l2, if_neg (by omega), if_pos (by omega)]
    rfl
  | succ d ih =>
    intro c k hc
    rw [show k + 6 * (d + 1) + 1 = (k + 6 * d + 1 + 4 + 1) + 1 from by omega, legateref04_Encrypt.l2, if_pos (by omega)]
    have := rl3 T hT Kb S hS h8 R c (by omega) 4 0 (k + 6 * d + 1) (by omega)
    rw [Nat.add_zero] at this
    exact this.trans (ih (c + 1) k (by omega))
end Go.Proofs.Ytkgijkfcmbpgpaa.Giv
