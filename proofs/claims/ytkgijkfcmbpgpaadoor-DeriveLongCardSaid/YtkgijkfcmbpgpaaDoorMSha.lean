/- Plain facts on the pad and on texts out of numbers. Plain facts on the words of a text, the rotations, and states as texts. States behind blocks, as the statements walk them: from text to text. -/
import Derived.Test.YtkgijkfcmbpgpaaDoorGSha
import Derived.Test.YtkgijkfcmbpgpaaDoorGTurn
import Derived.Laws.BitsAllLaws
namespace Go.Proofs.YtkgijkfcmbpgpaaDoor.Giv
open Go.RowKit Go.Proofs.YtkgijkfcmbpgpaaDoorW.PrintWords Go.Proofs.YtkgijkfcmbpgpaaDoorW.PrintLast Go.Proofs.YtkgijkfcmbpgpaaDoorW.PrintMore

/-- All are bytes. -/
def Byt (l : List Int) : Prop := ∀ x ∈ l, 0 ≤ x ∧ x < 256
theorem byte_back {x : Int} (h : 0 ≤ x ∧ x < 256) : ((UInt8.ofNat x.toNat).toNat : Int) = x := by
  have : x.toNat < 256 := by omega
  simp [UInt8.toNat_ofNat_of_lt' (show x.toNat < UInt8.size from this)]
  omega
theorem pad_ge (k : Nat) (hk : 100 ≤ k) (n : Int) (h : 0 ≤ n) : PAll.sha_Pad.f k n = some (padB n) := by
  unfold PAll.sha_Pad.f
  rw [if_neg (by omega)]
  have hz := padZ_lt (n + 1)
  have := pad_l0 n (padZ (n + 1)) (k - 10 - padZ (n + 1)) [128] (by simp; omega) rfl
  rw [show k - 10 - padZ (n + 1) + padZ (n + 1) + 10 = k from by omega] at this
  rw [this]
  rfl
end Go.Proofs.YtkgijkfcmbpgpaaDoor.Giv
namespace Go.Proofs.YtkgijkfcmbpgpaaDoor.Giv
open Go.RowKit Go.Proofs.YtkgijkfcmbpgpaaDoorW.PrintWords Go.Proofs.YtkgijkfcmbpgpaaDoorW.PrintLast Go.Proofs.YtkgijkfcmbpgpaaDoorW.PrintMore Go.Proofs.YtkgijkfcmbpgpaaDoor.PSub

/-- A word. -/
def W32 (x : Int) : Prop := 0 ≤ x ∧ x < 4294967296

theorem bt_byte (s : ByteArray) (i : Int) : 0 ≤ bt s i ∧ bt s i < 256 := by
  unfold bt
  split
  · exact ⟨by omega, by have := (s[i.toNat]).toNat_lt; omega⟩
  · omega
theorem bt_str (l : List Int) (hl : Byt l) (j : Nat) (hj : j < l.length) : bt (strOfNums l) (j : Int) = l[j] := by
  have hj' : j < (strOfNums l).size := by rw [size_strOfNums]; exact hj
  unfold bt
  rw [dif_pos (by simpa using hj')]
  have e : (strOfNums l)[((j : Int)).toNat]'(by simpa using hj') = UInt8.ofNat (l[j]).toNat := by
    simp only [Int.toNat_natCast]
    show ((l.map fun n => UInt8.ofNat n.toNat).toArray)[j]'(by simpa using hj) = _
    simp
  rw [e]
  exact byte_back (hl _ (List.getElem_mem hj))
theorem bt_extract (s : ByteArray) (a b j : Nat) (h : a + j < b) (hb : b ≤ s.size) : bt (s.extract a b) (j : Int) = bt s ((a + j : Nat) : Int) := by
  unfold bt
  have e1 : (j : Int).toNat < (s.extract a b).size := by simp; omega
  have e2 : ((a + j : Nat) : Int).toNat < s.size := by omega
  rw [dif_pos e1, dif_pos e2]
  simp only [Int.toNat_natCast]
  rw [ByteArray.getElem_extract]

theorem or_join (a b : Int) (i p : Nat) (hp : 2 ^ i = p) (ha : W32 a) (hb : W32 b) (h1 : a % p = 0) (h2 : b < p) : Go.bits .or .u32 a b = a + b := by
  rw [u32_or a b ha.1 ha.2 hb.1 hb.2]
  obtain ⟨a0, a1⟩ := ha
  obtain ⟨b0, b1⟩ := hb
  have c : ((a.toNat % p : Nat) : Int) = 0 := by rw [Int.natCast_emod, Int.toNat_of_nonneg a0]; exact h1
  have e := nat_join i a.toNat b.toNat (by rw [hp]; exact_mod_cast c) (by rw [hp]; omega)
  rw [e]; omega
theorem word_val (b0 b1 b2 b3 : Int) (h0 : 0 ≤ b0 ∧ b0 < 256) (h1 : 0 ≤ b1 ∧ b1 < 256) (h2 : 0 ≤ b2 ∧ b2 < 256) (h3 : 0 ≤ b3 ∧ b3 < 256) :
    (Go.bits .or .u32 (Go.bits .or .u32 (Go.bits .or .u32 (((b0 % 4294967296) * 16777216) % 4294967296) (((b1 % 4294967296) * 65536) % 4294967296)) (((b2 % 4294967296) * 256) % 4294967296)) (b3 % 4294967296))
      = b0 * 16777216 + b1 * 65536 + b2 * 256 + b3 := by
  rw [show ((b0 % 4294967296) * 16777216) % 4294967296 = b0 * 16777216 from by omega, show ((b1 % 4294967296) * 65536) % 4294967296 = b1 * 65536 from by omega, show ((b2 % 4294967296) * 256) % 4294967296 = b2 * 256 from by omega, show b3 % 4294967296 = b3 from by omega]
  rw [or_join (b0 * 16777216) (b1 * 65536) 24 16777216 (by decide) (by unfold W32; omega) (by unfold W32; omega) (by omega) (by omega)]
  rw [or_join (b0 * 16777216 + b1 * 65536) (b2 * 256) 16 65536 (by decide) (by unfold W32; omega) (by unfold W32; omega) (by omega) (by omega)]
  rw [or_join (b0 * 16777216 + b1 * 65536 + b2 * 256) b3 8 256 (by decide) (by unfold W32; omega) (by unfold W32; omega) (by omega) (by omega)]
/-- The word at place i, out of four bytes. -/
theorem wordAt_val (s : ByteArray) (i : Nat) (h : 4 * i + 4 ≤ s.size) :
    wordAt s i = bt s ((4 * i : Nat) : Int) * 16777216 + bt s ((4 * i + 1 : Nat) : Int) * 65536 + bt s ((4 * i + 2 : Nat) : Int) * 256 + bt s ((4 * i + 3 : Nat) : Int) := by
  have hs := word_some s i h
  unfold sha_word.f at hs
  have e : ((s.extract (4 * i) s.size).size : Int) ≥ 4 := by simp; omega
  rw [if_pos (by omega), if_pos (by omega), if_pos (by omega), if_pos (by omega), word_val _ _ _ _ (bt_byte _ _) (bt_byte _ _) (bt_byte _ _) (bt_byte _ _)] at hs
  rw [← Option.some.inj hs]
  have b0 := bt_extract s (4 * i) s.size 0 (by omega) (by omega)
  have b1 := bt_extract s (4 * i) s.size 1 (by omega) (by omega)
  have b2 := bt_extract s (4 * i) s.size 2 (by omega) (by omega)
  have b3 := bt_extract s (4 * i) s.size 3 (by omega) (by omega)
  simp only [Nat.add_zero] at b0
  rw [← b0, ← b1, ← b2, ← b3]
  rfl
theorem wordAt_w32 (s : ByteArray) (i : Nat) (h : 4 * i + 4 ≤ s.size) : W32 (wordAt s i) := by
  rw [wordAt_val s i h]
  have h0 := bt_byte s ((4 * i : Nat) : Int)
  have h1 := bt_byte s ((4 * i + 1 : Nat) : Int)
  have h2 := bt_byte s ((4 * i + 2 : Nat) : Int)
  have h3 := bt_byte s ((4 * i + 3 : Nat) : Int)
  unfold W32
  omega

/-- Eight words. -/
def InR (v : List Int) : Prop := v.length = 8 ∧ ∀ x ∈ v, W32 x
/-- A state as a text. -/
def stB (v : List Int) : ByteArray := strOfNums (textTo v 8)
theorem stB_size {v : List Int} (h : v.length = 8) : (stB v).size = 32 := by
  unfold stB; rw [size_strOfNums, textTo_len v 8 (by omega)]
theorem wordBytes_byt (x : Int) : Byt (wordBytes x) := by
  intro y hy
  simp only [wordBytes, List.mem_cons, List.not_mem_nil, or_false] at hy
  rcases hy with rfl | rfl | rfl | rfl <;> omega
theorem textTo_byt (v : List Int) (k : Nat) : Byt (textTo v k) := by
  intro y hy
  obtain ⟨x, _, hx⟩ := List.mem_flatMap.1 hy
  exact wordBytes_byt x y hx
theorem textTo_at (v : List Int) (n i j : Nat) (hi : i < n) (hn : n ≤ v.length) (hj : j < 4) : (textTo v n)[4 * i + j]'(by rw [textTo_len v n hn]; omega) = (wordBytes (v[i]'(by omega)))[j]'(by simpa [wordBytes] using hj) := by
  induction n with
  | zero => omega
  | succ n ih =>
    have e := textTo_succ v n (by omega)
    have hl := textTo_len v n (by omega)
    by_cases h : i < n
    · have := ih h (by omega)
      rw [← this]
      simp only [e]
      rw [List.getElem_append_left (by omega)]
    · obtain rfl : i = n := by omega
      simp only [e]
      rw [List.getElem_append_right (by omega)]
      have ev : v.getD i 0 = v[i]'(by omega) := by simp [show i < v.length by omega]
      simp only [ev, hl]
      congr 1
      omega
theorem read_stB {v : List Int} (h : InR v) : wordsTo (stB v) 8 8 = v := by
  apply List.ext_getElem
  · rw [wordsTo_len, h.1]
  · intro i h1 h2
    rw [wordsTo_len] at h1
    have e : (wordsTo (stB v) 8 8)[i]'(by rw [wordsTo_len]; exact h1) = wordAt (stB v) i := by simp [wordsTo, h1]
    rw [e, wordAt_val _ _ (by rw [stB_size h.1]; omega)]
    have hl := textTo_len v 8 (by rw [h.1]; omega)
    have g : ∀ j, (hj : j < 4) → bt (stB v) ((4 * i + j : Nat) : Int) = (wordBytes v[i])[j]'(by simpa [wordBytes] using hj) := fun j hj => by
      unfold stB
      rw [bt_str _ (textTo_byt v 8) (4 * i + j) (by omega), textTo_at v 8 i j h1 (by rw [h.1]; omega) hj]
    have g0 := g 0 (by omega)
    have g1 := g 1 (by omega)
    have g2 := g 2 (by omega)
    have g3 := g 3 (by omega)
    simp only [Nat.add_zero] at g0
    rw [g0, g1, g2, g3]
    have hx := h.2 _ (List.getElem_mem h2)
    simp only [wordBytes, List.getElem_cons_zero, List.getElem_cons_succ]
    unfold W32 at hx
    omega
end Go.Proofs.YtkgijkfcmbpgpaaDoor.Giv
namespace Go.Proofs.YtkgijkfcmbpgpaaDoor.Giv
open Go.RowKit Go.Proofs.YtkgijkfcmbpgpaaDoorW.PrintWords Go.Proofs.YtkgijkfcmbpgpaaDoorW.PrintLast Go.Proofs.YtkgijkfcmbpgpaaDoorW.PrintMore Go.Proofs.YtkgijkfcmbpgpaaDoor.PSub

theorem mod_w32 (x : Int) : W32 (x % 4294967296) := by unfold W32; omega
theorem addTo_eq (R v : List Int) (hR : R.length = 8) : ∃ a b c d e f g h : Int,
    addTo R v 8 = [a % 4294967296, b % 4294967296, c % 4294967296, d % 4294967296, e % 4294967296, f % 4294967296, g % 4294967296, h % 4294967296] := by
  obtain ⟨a, b, c, d, e, f, g, i, rfl⟩ := list8 hR
  exact ⟨a + v.getD 0 0, b + v.getD 1 0, c + v.getD 2 0, d + v.getD 3 0, e + v.getD 4 0, f + v.getD 5 0, g + v.getD 6 0, i + v.getD 7 0, by simp [addTo]⟩
theorem behindL_inR (s : ByteArray) (v : List Int) (hv : v.length = 8) : InR (behindL s v) := by
  refine ⟨behindL_len s v hv, ?_⟩
  unfold behindL
  obtain ⟨a, b, c, d, e, f, g, h, e1⟩ := addTo_eq (rounds s v 64) v (rounds_len s v hv 64)
  rw [e1]
  intro x hx
  simp only [List.mem_cons, List.not_mem_nil, or_false] at hx
  rcases hx with rfl | rfl | rfl | rfl | rfl | rfl | rfl | rfl <;> exact mod_w32 _
theorem firstL_inR : InR firstL := by
  refine ⟨rfl, ?_⟩
  intro x hx
  simp only [firstL, List.mem_cons, List.not_mem_nil, or_false] at hx
  rcases hx with rfl | rfl | rfl | rfl | rfl | rfl | rfl | rfl <;> exact ⟨by decide, by decide⟩
theorem stTo_inR (t : ByteArray) : ∀ k, InR (stTo t k)
  | 0 => firstL_inR
  | k + 1 => behindL_inR _ _ (stTo_inR t k).1
theorem block_st (v : List Int) (b : ByteArray) (h : InR v) (hb : b.size = 64) : sha_Block.f (stB v) b = some (stB (behindL b v)) := by
  unfold sha_Block.f
  rw [if_pos ⟨stB_size h.1, hb⟩]
  unfold blockB
  rw [read_stB h]
  rfl
theorem block_stTo (t : ByteArray) (k : Nat) (h : 64 * k + 64 ≤ t.size) : sha_Block.f (stB (stTo t k)) (t.extract (64 * k) (64 * k + 64)) = some (stB (stTo t (k + 1))) := by
  rw [block_st _ _ (stTo_inR t k) (by simp; omega)]
  rfl
theorem sumB_st (s : ByteArray) (n : Nat) (h : (s ++ padB s.size).size = 64 * n) : sumB s = stB (stTo (s ++ padB s.size) n) := by
  unfold sumB
  rw [h, show 64 * n / 64 = n from by omega]
  rfl
theorem sum_st (s : ByteArray) (n : Nat) (hs : s.size ≤ 100000000) (h : (s ++ padB s.size).size = 64 * n) : sha_Sum.f s = some (stB (stTo (s ++ padB s.size) n)) := by
  unfold sha_Sum.f
  rw [if_pos hs, sumB_st s n h]
end Go.Proofs.YtkgijkfcmbpgpaaDoor.Giv
