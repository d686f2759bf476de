/- The reference's rounds and its schedule; a block, and sums by blocks: the same as the program's. -/
import Derived.Test.YtkgijkfcmbpgpaaDoorMRef2
namespace Go.Proofs.YtkgijkfcmbpgpaaDoor.Giv
open Go.RowKit Go.Proofs.YtkgijkfcmbpgpaaDoorW.PrintWords Go.Proofs.YtkgijkfcmbpgpaaDoorW.PrintLast Go.Proofs.YtkgijkfcmbpgpaaDoorW.PrintMore Go.Proofs.YtkgijkfcmbpgpaaDoor.PSub Go.Proofs.YtkgijkfcmbpgpaaDoor.PAll
set_option linter.unusedVariables false
set_option linter.unusedSimpArgs false

theorem rd_nat (L : List Int) (i : Nat) : rd L (i : Int) = L.getD i 0 := by unfold rd; rw [Int.toNat_natCast]
theorem ref_l1_step (blk : ByteArray) (hb : blk.size = 64) (v : List Int) (hv : v.length = 8) (hvw : ∀ x ∈ v, W32 x) (k t : Nat) (ht : t < 64) :
    legateref02_Block.l1 (k + 1) keysL (sprTo blk 48) v (rounds blk v t) (t : Int) = legateref02_Block.l1 k keysL (sprTo blk 48) v (rounds blk v (t + 1)) ((t + 1 : Nat) : Int) := by
  have h1 : rounds blk v (t + 1) = bStep (rounds blk v t) (keysL.getD t 0) ((sprTo blk 48).getD t 0) := rfl
  obtain ⟨a, b, c, d, e, f, g, p, hl, ha, hb2, hc, hd, he, hf, hg, hp⟩ := list8_w (rounds_len blk v hv t) (rounds_w blk v hv hvw t)
  have hk3 : keysL.length = 64 := rfl
  have hs3 := sprTo_len blk 48
  have ew : wrap64 ((t : Int) + 1) = ((t + 1 : Nat) : Int) := by unfold wrap64; omega
  have n1 := not_w e he
  have x1 := xor_w _ _ (xor_w _ _ (rr_w_6 e he) (rr_w_11 e he)) (rr_w_25 e he)
  have x2 := xor_w _ _ (xor_w _ _ (rr_w_2 a ha) (rr_w_13 a ha)) (rr_w_22 a ha)
  have c1 := xor_w _ _ (and_w _ _ he hf) (and_w _ _ n1 hg)
  have c2 := xor_w _ _ (xor_w _ _ (and_w _ _ ha hb2) (and_w _ _ ha hc)) (and_w _ _ hb2 hc)
  have hkk := getD_w keysL_w t
  have hww := getD_w (sprTo_w blk hb 48) t
  rw [h1, hl, legateref02_Block.l1]
  simp only [List.length_cons, List.length_nil, Nat.zero_add, Nat.reduceAdd]
  rw [if_pos (by omega), if_pos (by omega), if_pos (by omega), if_pos (by omega), if_pos (by omega), if_pos (by omega), if_pos (by omega), if_pos (by omega)]
  have r0 : rd [a, b, c, d, e, f, g, p] 0 = a := rfl
  have r1 : rd [a, b, c, d, e, f, g, p] 1 = b := rfl
  have r2 : rd [a, b, c, d, e, f, g, p] 2 = c := rfl
  have r3 : rd [a, b, c, d, e, f, g, p] 3 = d := rfl
  have r4 : rd [a, b, c, d, e, f, g, p] 4 = e := rfl
  have r5 : rd [a, b, c, d, e, f, g, p] 5 = f := rfl
  have r6 : rd [a, b, c, d, e, f, g, p] 6 = g := rfl
  have r7 : rd [a, b, c, d, e, f, g, p] 7 = p := rfl
  rw [r0, r1, r2, r3, r4, r5, r6, r7, turn_6 e he, turn_11 e he, turn_25 e he]
  simp only [Option.bind_some]
  rw [if_pos (by omega), if_pos (by omega), if_pos (by omega), turn_2 a ha, turn_13 a ha, turn_22 a ha]
  simp only [Option.bind_some]
  rw [if_pos (by omega), ew, rd_nat, rd_nat]
  have en : wrap64 (4294967295 - e) = 4294967295 - e := by unfold W32 at he; exact w64 (by omega) (by omega)
  rw [en, i64_xor32 _ _ (rr_w_6 e he) (rr_w_11 e he), i64_xor32 _ _ (xor_w _ _ (rr_w_6 e he) (rr_w_11 e he)) (rr_w_25 e he), i64_and32 _ _ he hf, i64_and32 _ _ n1 hg, i64_xor32 _ _ (and_w _ _ he hf) (and_w _ _ n1 hg),
    i64_xor32 _ _ (rr_w_2 a ha) (rr_w_13 a ha), i64_xor32 _ _ (xor_w _ _ (rr_w_2 a ha) (rr_w_13 a ha)) (rr_w_22 a ha), i64_and32 _ _ ha hb2, i64_and32 _ _ ha hc, i64_and32 _ _ hb2 hc,
    i64_xor32 _ _ (and_w _ _ ha hb2) (and_w _ _ ha hc), i64_xor32 _ _ (xor_w _ _ (and_w _ _ ha hb2) (and_w _ _ ha hc)) (and_w _ _ hb2 hc)]
  rw [ref_X p (keysL.getD t 0) ((sprTo blk 48).getD t 0) _ _ hp hkk hww x1 c1, ref_two _ _ x2 c2]
  rw [ref_two _ _ (mod_w32 _) (mod_w32 _), ref_two _ _ hd (mod_w32 _)]
  have eb : bX e f g p (keysL.getD t 0) ((sprTo blk 48).getD t 0) = ((p + Go.bits .xor .u32 (Go.bits .xor .u32 (rr e 6) (rr e 11)) (rr e 25) + Go.bits .xor .u32 (Go.bits .and .u32 e f) (Go.bits .and .u32 (4294967295 - e) g) + keysL.getD t 0) % 4294967296 + (sprTo blk 48).getD t 0) % 4294967296 := by
    unfold bX; rw [not_32 e he]
  have ey : bY a b c = (Go.bits .xor .u32 (Go.bits .xor .u32 (rr a 2) (rr a 13)) (rr a 22) + Go.bits .xor .u32 (Go.bits .xor .u32 (Go.bits .and .u32 a b) (Go.bits .and .u32 a c)) (Go.bits .and .u32 b c)) % 4294967296 := rfl
  simp only [bStep]
  rw [eb, ey]
theorem ref_l1 (blk : ByteArray) (hb : blk.size = 64) (v : List Int) (hv : v.length = 8) (hvw : ∀ x ∈ v, W32 x) : ∀ (d t k : Nat), t + d = 64 → d + 30 < k →
    legateref02_Block.l1 k keysL (sprTo blk 48) v (rounds blk v t) (t : Int) = some (strOfNums (textTo (behindL blk v) 8)) := by
  intro d
  induction d with
  | zero =>
    intro t k hm hk
    obtain ⟨k, rfl⟩ : ∃ j, k = j + 1 := ⟨k - 1, by omega⟩
    obtain rfl : t = 64 := by omega
    rw [legateref02_Block.l1, if_neg (by omega)]
    exact ref_l2 (rounds blk v 64) v (rounds_len blk v hv 64) (rounds_w blk v hv hvw 64) hv hvw 8 0 k (by omega) (by omega)
  | succ d ih =>
    intro t k hm hk
    obtain ⟨k, rfl⟩ : ∃ j, k = j + 1 := ⟨k - 1, by omega⟩
    rw [ref_l1_step blk hb v hv hvw k t (by omega)]
    exact ih (t + 1) k (by omega) (by omega)
theorem take_getD (L : List Int) (n i : Nat) (h : i < n) : (L.take n).getD i 0 = L.getD i 0 := by
  simp [List.getD_eq_getElem?_getD, List.getElem?_take, h]
theorem div_w (x d : Int) (hx : W32 x) (hd : 1 ≤ d) : W32 (x / d) := by
  unfold W32 at *
  have h1 := Int.ediv_nonneg (a := x) (b := d) (by omega) (by omega)
  have h2 := Int.ediv_le_self (a := x) d (by omega)
  omega
theorem ref_spr (S1 w7 S0 w16 : Int) (h1 : W32 S1) (h2 : W32 w7) (h3 : W32 S0) (h4 : W32 w16) :
    Int.tmod (wrap64 ((wrap64 ((wrap64 (S1 + w7)) + S0)) + w16)) 4294967296 = (((S1 + w7) % 4294967296 + S0) % 4294967296 + w16) % 4294967296 := by
  unfold W32 at *
  rw [w64 (x := S1 + w7) (by omega) (by omega), w64 (x := S1 + w7 + S0) (by omega) (by omega), w64 (by omega) (by omega), tm (by omega)]
  omega
theorem ref_l0_step (st blk : ByteArray) (hb : blk.size = 64) (k j : Nat) (hj : j < 48) :
    legateref02_Block.l0 (k + 1) keysL st ((sprTo blk j).take (j + 16)) ((j + 16 : Nat) : Int) = legateref02_Block.l0 k keysL st ((sprTo blk (j + 1)).take (j + 17)) ((j + 17 : Nat) : Int) := by
  have hl := sprTo_len blk j
  have hw := sprTo_w blk hb j
  have e1 : wrap64 (((j + 16 : Nat) : Int) - 15) = ((j + 1 : Nat) : Int) := by unfold wrap64; omega
  have e2 : wrap64 (((j + 16 : Nat) : Int) - 2) = ((j + 14 : Nat) : Int) := by unfold wrap64; omega
  have e3 : wrap64 (((j + 16 : Nat) : Int) - 7) = ((j + 9 : Nat) : Int) := by unfold wrap64; omega
  have e4 : wrap64 (((j + 16 : Nat) : Int) - 16) = ((j : Nat) : Int) := by unfold wrap64; omega
  have e5 : wrap64 (((j + 16 : Nat) : Int) + 1) = ((j + 17 : Nat) : Int) := by unfold wrap64; omega
  have htl : ((sprTo blk j).take (j + 16)).length = j + 16 := by rw [List.length_take]; omega
  have x := getD_w hw (j + 1)
  have y := getD_w hw (j + 14)
  have w7 := getD_w hw (j + 9)
  have w16 := getD_w hw j
  have s0 := xor_w _ _ (xor_w _ _ (rr_w_7 _ x) (rr_w_18 _ x)) (div_w _ 8 x (by omega))
  have s1 := xor_w _ _ (xor_w _ _ (rr_w_17 _ y) (rr_w_19 _ y)) (div_w _ 1024 y (by omega))
  have d0 : wrap64 (Int.tdiv ((sprTo blk j).getD (j + 1) 0) 8) = (sprTo blk j).getD (j + 1) 0 / 8 := by unfold W32 at x; rw [td (by omega), w64 (by omega) (by omega)]
  have d1 : wrap64 (Int.tdiv ((sprTo blk j).getD (j + 14) 0) 1024) = (sprTo blk j).getD (j + 14) 0 / 1024 := by unfold W32 at y; rw [td (by omega), w64 (by omega) (by omega)]
  rw [legateref02_Block.l0, e1, e2, e3, e4, e5, if_pos (by omega), if_pos (by omega), if_pos (by omega), if_pos (by omega), if_pos (by omega), rd_nat, rd_nat, rd_nat, rd_nat,
    take_getD _ _ _ (by omega), take_getD _ _ _ (by omega), take_getD _ _ _ (by omega), take_getD _ _ _ (by omega), turn_7 _ x, turn_18 _ x, turn_17 _ y, turn_19 _ y]
  simp only [Option.bind_some]
  rw [if_pos (by omega), if_pos (by omega), if_pos (by omega), if_pos (by omega), if_pos (by omega), d0, d1,
    i64_xor32 _ _ (rr_w_7 _ x) (rr_w_18 _ x), i64_xor32 _ _ (xor_w _ _ (rr_w_7 _ x) (rr_w_18 _ x)) (div_w _ 8 x (by omega)),
    i64_xor32 _ _ (rr_w_17 _ y) (rr_w_19 _ y), i64_xor32 _ _ (xor_w _ _ (rr_w_17 _ y) (rr_w_19 _ y)) (div_w _ 1024 y (by omega)), ref_spr _ _ _ _ s1 w7 s0 w16]
  have ev : sprTo blk (j + 1) = (sprTo blk j).set (j + 16) (sprX ((sprTo blk j).getD (j + 1) 0) ((sprTo blk j).getD (j + 14) 0) ((sprTo blk j).getD (j + 9) 0) ((sprTo blk j).getD j 0)) := by
    rw [spr_next]
    simp only [List.getD_eq_getElem?_getD]
  have et : ∀ y : Int, ((sprTo blk j).set (j + 16) y).take (j + 17) = (sprTo blk j).take (j + 16) ++ [y] := fun y => by
    rw [show j + 17 = (j + 16) + 1 from rfl, List.take_succ_eq_append_getElem (i := j + 16) (by rw [List.length_set]; omega), List.take_set_of_le (by omega)]
    simp
  rw [ev, et]
  rfl
theorem ref_l0 (st blk : ByteArray) (hb : blk.size = 64) (hs : st.size = 32) : ∀ (d j k : Nat), j + d = 48 → d + 130 < k →
    legateref02_Block.l0 k keysL st ((sprTo blk j).take (j + 16)) ((j + 16 : Nat) : Int) = some (blockB st blk) := by
  intro d
  induction d with
  | zero =>
    intro j k hm hk
    obtain ⟨k, rfl⟩ : ∃ j, k = j + 1 := ⟨k - 1, by omega⟩
    obtain rfl : j = 48 := by omega
    rw [legateref02_Block.l0, if_neg (by omega), ref_words st 8 (by omega) (by omega) k (by omega)]
    simp only [Option.bind_some]
    rw [List.take_of_length_le (by rw [sprTo_len]; omega)]
    exact ref_l1 blk hb (wordsTo st 8 8) (wordsTo_len st 8 8) (words_w st 8 8 (by omega)) 64 0 k (by omega) (by omega)
  | succ d ih =>
    intro j k hm hk
    obtain ⟨k, rfl⟩ : ∃ j, k = j + 1 := ⟨k - 1, by omega⟩
    rw [ref_l0_step st blk hb k j (by omega)]
    exact ih (j + 1) k (by omega) (by omega)
theorem ref_j0 (st blk : ByteArray) (hb : blk.size = 64) (hs : st.size = 32) (k : Nat) (hk : 200 ≤ k) : legateref02_Block.j0 k keysL st blk false = some (blockB st blk) := by
  obtain ⟨k, rfl⟩ : ∃ j, k = j + 1 := ⟨k - 1, by omega⟩
  rw [legateref02_Block.j0, if_neg (by simp), ref_words blk 16 (by omega) (by omega) k (by omega)]
  simp only [Option.bind_some]
  have e : wordsTo blk 16 16 = (sprTo blk 0).take (0 + 16) := by
    show _ = (wordsTo blk 64 16).take 16
    unfold wordsTo
    rw [← List.map_take, List.take_range]
    rfl
  rw [e]
  exact ref_l0 st blk hb hs 48 0 k (by omega) (by omega)
/-- The reference's block is the program's. -/
theorem ref_block (st blk : ByteArray) (k : Nat) (hk : 200 ≤ k) : legateref02_Block.f k keysL st blk = sha_Block.f st blk := by
  unfold legateref02_Block.f sha_Block.f
  have out : ∀ b, legateref02_Block.j0 k keysL st blk true = some b ↔ some ⟨#[]⟩ = some b := fun b => by
    obtain ⟨k, rfl⟩ : ∃ j, k = j + 1 := ⟨k - 1, by omega⟩
    rw [legateref02_Block.j0, if_pos rfl]
  by_cases h1 : st.size = 32
  · rw [if_pos (by omega)]
    by_cases h2 : blk.size = 64
    · have e : ((blk.size : Int) != 64) = false := by simp [h2]
      rw [e, if_pos ⟨h1, h2⟩, ref_j0 st blk h2 h1 k hk]
    · have e : ((blk.size : Int) != 64) = true := by rw [bne_iff_ne]; omega
      rw [e, if_neg (fun h => h2 h.2)]
      exact (out _).2 rfl
  · rw [if_neg (by omega), if_neg (fun h => h1 h.1)]
    exact (out _).2 rfl
end Go.Proofs.YtkgijkfcmbpgpaaDoor.Giv
