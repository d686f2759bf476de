/- The reference's block: the same as the program's. -/
import Derived.Test.YtkgijkfcmbpgpaaDoorMRef1
import Derived.Test.YtkgijkfcmbpgpaaDoorPAllx6
namespace Go.Proofs.YtkgijkfcmbpgpaaDoor.Giv
open Go.RowKit Go.Proofs.YtkgijkfcmbpgpaaDoorW.PrintWords Go.Proofs.YtkgijkfcmbpgpaaDoorW.PrintLast Go.Proofs.YtkgijkfcmbpgpaaDoorW.PrintMore Go.Proofs.YtkgijkfcmbpgpaaDoor.PSub Go.Proofs.YtkgijkfcmbpgpaaDoor.PAll

theorem zero_w : W32 0 := by unfold W32; omega
theorem getD_w {L : List Int} (h : ∀ x ∈ L, W32 x) (i : Nat) : W32 (L.getD i 0) := by
  by_cases hi : i < L.length
  · rw [List.getD_eq_getElem?_getD, List.getElem?_eq_getElem hi]
    exact h _ (List.getElem_mem hi)
  · rw [List.getD_eq_getElem?_getD, List.getElem?_eq_none (by omega)]
    exact zero_w
theorem set_w {L : List Int} (h : ∀ x ∈ L, W32 x) (i : Nat) {y : Int} (hy : W32 y) : ∀ x ∈ L.set i y, W32 x := by
  intro x hx
  rcases List.mem_or_eq_of_mem_set hx with h1 | h1
  · exact h x h1
  · rw [h1]; exact hy
/-- The words of a text. -/
def wdL (s : ByteArray) (n : Nat) : List Int := (List.range n).map (wordAt s)
theorem wdL_len (s : ByteArray) (n : Nat) : (wdL s n).length = n := by simp [wdL]
theorem wdL_succ (s : ByteArray) (n : Nat) : wdL s (n + 1) = wdL s n ++ [wordAt s n] := by simp [wdL, List.range_succ]
theorem wdL_words (s : ByteArray) (n : Nat) : wdL s n = wordsTo s n n := by
  unfold wdL wordsTo
  apply List.map_congr_left
  intro i hi
  rw [if_pos (List.mem_range.1 hi)]
theorem word64 (b0 b1 b2 b3 : Int) (h0 : 0 ≤ b0 ∧ b0 < 256) (h1 : 0 ≤ b1 ∧ b1 < 256) (h2 : 0 ≤ b2 ∧ b2 < 256) (h3 : 0 ≤ b3 ∧ b3 < 256) :
    wrap64 ((wrap64 ((wrap64 ((wrap64 ((wrap64 b0) * 16777216)) + (wrap64 ((wrap64 b1) * 65536)))) + (wrap64 ((wrap64 b2) * 256)))) + (wrap64 b3)) = b0 * 16777216 + b1 * 65536 + b2 * 256 + b3 := by
  rw [w64 (x := b0) (by omega) (by omega), w64 (x := b1) (by omega) (by omega), w64 (x := b2) (by omega) (by omega), w64 (x := b3) (by omega) (by omega),
    w64 (x := b0 * 16777216) (by omega) (by omega), w64 (x := b1 * 65536) (by omega) (by omega), w64 (x := b2 * 256) (by omega) (by omega), w64 (x := b0 * 16777216 + b1 * 65536) (by omega) (by omega), w64 (x := b0 * 16777216 + b1 * 65536 + b2 * 256) (by omega) (by omega), w64 (by omega) (by omega)]
theorem ref_words_l0 (s : ByteArray) (n : Nat) (hs : s.size = 4 * n) (hn : n ≤ 1000) : ∀ (d m k : Nat), m + d = n → d < k →
    legateref02_words.l0 k s (wdL s m) ((4 * m : Nat) : Int) = some (wdL s n) := by
  intro d
  induction d with
  | zero =>
    intro m k hm hk
    obtain ⟨k, rfl⟩ : ∃ j, k = j + 1 := ⟨k - 1, by omega⟩
    obtain rfl : m = n := by omega
    have e : wrap64 (((4 * m : Nat) : Int) + 3) = ((4 * m + 3 : Nat) : Int) := by unfold wrap64; omega
    rw [legateref02_words.l0, e, if_neg (by omega)]
  | succ d ih =>
    intro m k hm hk
    obtain ⟨k, rfl⟩ : ∃ j, k = j + 1 := ⟨k - 1, by omega⟩
    have e1 : wrap64 (((4 * m : Nat) : Int) + 1) = ((4 * m + 1 : Nat) : Int) := by unfold wrap64; omega
    have e2 : wrap64 (((4 * m : Nat) : Int) + 2) = ((4 * m + 2 : Nat) : Int) := by unfold wrap64; omega
    have e3 : wrap64 (((4 * m : Nat) : Int) + 3) = ((4 * m + 3 : Nat) : Int) := by unfold wrap64; omega
    have e4 : wrap64 (((4 * m : Nat) : Int) + 4) = ((4 * (m + 1) : Nat) : Int) := by unfold wrap64; omega
    rw [legateref02_words.l0, e1, e2, e3, e4, if_pos (by omega), if_pos (by omega), if_pos (by omega), if_pos (by omega), if_pos (by omega), if_pos (by omega), if_pos (by omega), if_pos (by omega), if_pos (by rw [wdL_len]; omega),
      word64 _ _ _ _ (bt_byte _ _) (bt_byte _ _) (bt_byte _ _) (bt_byte _ _), ← wordAt_val s m (by omega), ← wdL_succ]
    exact ih (m + 1) k (by omega) (by omega)
theorem ref_words (s : ByteArray) (n : Nat) (hs : s.size = 4 * n) (hn : n ≤ 1000) (k : Nat) (hk : n < k) : legateref02_words.f k s = some (wordsTo s n n) := by
  rw [← wdL_words]
  exact ref_words_l0 s n hs hn n 0 k (by omega) hk
theorem words_w (s : ByteArray) (n k : Nat) (h : 4 * k ≤ s.size) : ∀ x ∈ wordsTo s n k, W32 x := by
  intro x hx
  obtain ⟨i, _, rfl⟩ := List.mem_map.1 hx
  show W32 (if i < k then wordAt s i else 0)
  split
  · exact wordAt_w32 s i (by omega)
  · exact zero_w
/-- The words of a state, as bytes. -/
theorem ref_bytes_l0 (l : List Int) (hl : l.length = 8) (hw : ∀ x ∈ l, W32 x) : ∀ (d m k : Nat), m + d = 8 → d < k →
    legateref02_bytes.l0 k l (strOfNums (textTo l m)) (m : Int) = some (strOfNums (textTo l 8)) := by
  intro d
  induction d with
  | zero =>
    intro m k hm hk
    obtain ⟨k, rfl⟩ : ∃ j, k = j + 1 := ⟨k - 1, by omega⟩
    obtain rfl : m = 8 := by omega
    rw [legateref02_bytes.l0, hl, if_neg (by omega)]
  | succ d ih =>
    intro m k hm hk
    obtain ⟨k, rfl⟩ : ∃ j, k = j + 1 := ⟨k - 1, by omega⟩
    have e : wrap64 ((m : Int) + 1) = ((m + 1 : Nat) : Int) := by unfold wrap64; omega
    have hx := getD_w hw m
    have er : rd l (m : Int) = l.getD m 0 := by unfold rd; rw [Int.toNat_natCast]
    have eb : ([(wrap64 (Int.tdiv (rd l m) 16777216)) % 256, (Int.tmod (wrap64 (Int.tdiv (rd l m) 65536)) 256) % 256, (Int.tmod (wrap64 (Int.tdiv (rd l m) 256)) 256) % 256, (Int.tmod (rd l m) 256) % 256] : List Int) = wordBytes (l.getD m 0) := by
      rw [er]
      unfold W32 at hx
      rw [td (by omega), td (by omega), td (by omega), w64 (by omega) (by omega), w64 (by omega) (by omega), w64 (by omega) (by omega), tm (by omega), tm (by omega), tm (by omega)]
      unfold wordBytes
      congr 1
      congr 1
      · omega
      · congr 1
        · omega
        · congr 1
          omega
    have hz : (strOfNums (textTo l m)).size = 4 * m := by rw [size_strOfNums, textTo_len l m (by omega)]
    have hz2 : (strOfNums (wordBytes (l.getD m 0))).size = 4 := by rw [size_strOfNums]; rfl
    rw [legateref02_bytes.l0, if_pos (by omega), if_pos (by omega), eb]
    simp only [Option.bind_some]
    rw [if_pos (by omega), ← str_append, ← textTo_succ l m (by omega), e]
    exact ih (m + 1) k (by omega) (by omega)
theorem ref_bytes (l : List Int) (hl : l.length = 8) (hw : ∀ x ∈ l, W32 x) (k : Nat) (hk : 8 < k) : legateref02_bytes.f k l = some (strOfNums (textTo l 8)) :=
  ref_bytes_l0 l hl hw 8 0 k (by omega) hk
theorem addTo_w {R v : List Int} (hR : ∀ x ∈ R, W32 x) : ∀ i, ∀ x ∈ addTo R v i, W32 x
  | 0 => hR
  | i + 1 => set_w (addTo_w hR i) i (mod_w32 _)
theorem ref_l2 (R v : List Int) (hR : R.length = 8) (hRw : ∀ x ∈ R, W32 x) (hv : v.length = 8) (hvw : ∀ x ∈ v, W32 x) : ∀ (d m k : Nat), m + d = 8 → d + 10 < k →
    legateref02_Block.l2 k v (addTo R v m) (m : Int) = some (strOfNums (textTo (addTo R v 8) 8)) := by
  intro d
  induction d with
  | zero =>
    intro m k hm hk
    obtain ⟨k, rfl⟩ : ∃ j, k = j + 1 := ⟨k - 1, by omega⟩
    obtain rfl : m = 8 := by omega
    rw [legateref02_Block.l2, if_neg (by omega), ref_bytes _ (by rw [addTo_len, hR]) (addTo_w hRw 8) k (by omega)]
    rfl
  | succ d ih =>
    intro m k hm hk
    obtain ⟨k, rfl⟩ : ∃ j, k = j + 1 := ⟨k - 1, by omega⟩
    have e : wrap64 ((m : Int) + 1) = ((m + 1 : Nat) : Int) := by unfold wrap64; omega
    have hx := getD_w (addTo_w (v := v) hRw m) m
    have hy := getD_w hvw m
    have er : rd (addTo R v m) (m : Int) = (addTo R v m).getD m 0 := by unfold rd; rw [Int.toNat_natCast]
    have er2 : rd v (m : Int) = v.getD m 0 := by unfold rd; rw [Int.toNat_natCast]
    unfold W32 at hx hy
    rw [legateref02_Block.l2, if_pos (by omega), if_pos (by omega), if_pos (by rw [addTo_len]; omega), if_pos (by omega), er, er2, w64 (x := (addTo R v m).getD m 0 + v.getD m 0) (by omega) (by omega), tm (by omega), Int.toNat_natCast, e]
    exact ih (m + 1) k (by omega) (by omega)
theorem keysL_w : ∀ x ∈ keysL, W32 x := by
  intro x hx
  have h : keysL.all (fun x => decide (0 ≤ x) && decide (x < 4294967296)) = true := by kernel_rfl
  have := List.all_eq_true.1 h x hx
  simp only [Bool.and_eq_true, decide_eq_true_eq] at this
  exact this
theorem sprTo_w (s : ByteArray) (hs : s.size = 64) : ∀ j, ∀ x ∈ sprTo s j, W32 x
  | 0 => words_w s 64 16 (by omega)
  | j + 1 => set_w (sprTo_w s hs j) _ (by
      show W32 ((_ : Int) % 4294967296)
      exact mod_w32 _)
theorem list8_w {l : List Int} (h : l.length = 8) (hw : ∀ x ∈ l, W32 x) : ∃ a b c d e f g i, l = [a, b, c, d, e, f, g, i] ∧ W32 a ∧ W32 b ∧ W32 c ∧ W32 d ∧ W32 e ∧ W32 f ∧ W32 g ∧ W32 i := by
  obtain ⟨a, b, c, d, e, f, g, i, rfl⟩ := list8 h
  simp only [List.mem_cons, List.not_mem_nil, or_false] at hw
  exact ⟨a, b, c, d, e, f, g, i, rfl, hw a (by simp), hw b (by simp), hw c (by simp), hw d (by simp), hw e (by simp), hw f (by simp), hw g (by simp), hw i (by simp)⟩
theorem rounds_w (s : ByteArray) (v : List Int) (hv : v.length = 8) (hw : ∀ x ∈ v, W32 x) : ∀ k, ∀ x ∈ rounds s v k, W32 x
  | 0 => hw
  | k + 1 => by
    obtain ⟨a, b, c, d, e, f, g, i, hl, ha, hb, hc, hd, he, hf, hg, hi⟩ := list8_w (rounds_len s v hv k) (rounds_w s v hv hw k)
    intro x hx
    have h : rounds s v (k + 1) = bStep (rounds s v k) (keysL.getD k 0) ((sprTo s 48).getD k 0) := rfl
    rw [h, hl] at hx
    simp only [bStep, List.mem_cons, List.not_mem_nil, or_false] at hx
    rcases hx with rfl | rfl | rfl | rfl | rfl | rfl | rfl | rfl
    · exact mod_w32 _
    · exact ha
    · exact hb
    · exact hc
    · exact mod_w32 _
    · exact he
    · exact hf
    · exact hg
theorem ref_X (p kk ww X C : Int) (hp : W32 p) (hkk : W32 kk) (hww : W32 ww) (hX : W32 X) (hC : W32 C) :
    Int.tmod (wrap64 ((wrap64 ((wrap64 ((wrap64 (p + X)) + C)) + kk)) + ww)) 4294967296 = ((p + X + C + kk) % 4294967296 + ww) % 4294967296 := by
  unfold W32 at *
  rw [w64 (x := p + X) (by omega) (by omega), w64 (x := p + X + C) (by omega) (by omega), w64 (x := p + X + C + kk) (by omega) (by omega), w64 (by omega) (by omega), tm (by omega)]
  omega
theorem ref_two (x y : Int) (hx : W32 x) (hy : W32 y) : Int.tmod (wrap64 (x + y)) 4294967296 = (x + y) % 4294967296 := by
  unfold W32 at *
  rw [w64 (by omega) (by omega), tm (by omega)]
end Go.Proofs.YtkgijkfcmbpgpaaDoor.Giv
