/- AesKeys: each key follows from the one ahead; the first 16 bytes are the key. -/
import Derived.Test.YtkgijkfcmbpgpaaMAesT
import Derived.Test.YtkgijkfcmbpgpaaMAes4
import Derived.Test.YtkgijkfcmbpgpaaPAllx5
namespace Go.Proofs.Ytkgijkfcmbpgpaa.Pure
open Go.RowKit Go.Proofs.Ytkgijkfcmbpgpaa.PAll Go.Proofs.YtkgijkfcmbpgpaaW.PrintWords Go.Proofs.YtkgijkfcmbpgpaaW.PrintLast
open Go.Proofs.Ytkgijkfcmbpgpaa.Giv
set_option linter.unusedVariables false
set_option linter.unusedSimpArgs false

theorem put_at (B w : List Int) (i : Nat) (hi : 16 ≤ i) : ∀ k, k ≤ 4 → ∀ j, j < B.length → (exPut B w i k).getD j 0 = if i ≤ j ∧ j < i + k then x8 (B.getD (j - 16) 0) (w.getD (j - i) 0) else B.getD j 0
  | 0, _, j, hj => by
    rw [if_neg (by omega)]
    rfl
  | k + 1, hk, j, hj => by
    have ih := put_at B w i hi k (by omega)
    rw [exPut, set_at _ _ _ _ (by rw [exPut_len]; exact hj)]
    by_cases h : i + k = j
    · subst h
      rw [if_pos rfl, if_pos (by omega), ih (i + k - 16) (by omega), if_neg (by omega), show i + k - i = k from by omega]
    · rw [if_neg h, ih j hj]
      by_cases h2 : i ≤ j ∧ j < i + k
      · rw [if_pos h2, if_pos (by omega)]
      · rw [if_neg h2, if_neg (by omega)]
theorem ex_step (t B : List Int) (hB : B.length = 176) (m j : Nat) (hj : j < 16 + 4 * m) (hj2 : j < 176) : (exS t B (m + 1)).1.getD j 0 = (exS t B m).1.getD j 0 := by
  show (exPut (exS t B m).1 (exW t (exS t B m).1 (exS t B m).2 (16 + 4 * m)) (16 + 4 * m) 4).getD j 0 = _
  rw [put_at _ _ _ (by omega) 4 (by omega) j (by rw [exS_len, hB]; exact hj2), if_neg (by omega)]
theorem ex_stable (t B : List Int) (hB : B.length = 176) (m j : Nat) (hj : j < 16 + 4 * m) (hj2 : j < 176) : ∀ n, (exS t B (m + n)).1.getD j 0 = (exS t B m).1.getD j 0
  | 0 => rfl
  | n + 1 => by
    rw [show m + (n + 1) = (m + n) + 1 from by omega, ex_step t B hB (m + n) j (by omega) hj2]
    exact ex_stable t B hB m j hj hj2 n
/-- Each byte of the keys out of those ahead. -/
theorem key_rel (t B : List Int) (hB : B.length = 176) (m q : Nat) (hm : m < 40) (hq : q < 4) :
    (exS t B 40).1.getD (16 + 4 * m + q) 0 = x8 ((exS t B 40).1.getD (16 + 4 * m + q - 16) 0) ((exW t (exS t B 40).1 (exS t B m).2 (16 + 4 * m)).getD q 0) := by
  have st : ∀ j, j < 16 + 4 * m → (exS t B 40).1.getD j 0 = (exS t B m).1.getD j 0 := fun j hj => by
    have := ex_stable t B hB m j hj (by omega) (40 - m)
    rwa [show m + (40 - m) = 40 from by omega] at this
  have s1 := ex_stable t B hB (m + 1) (16 + 4 * m + q) (by omega) (by omega) (40 - (m + 1))
  rw [show m + 1 + (40 - (m + 1)) = 40 from by omega] at s1
  have s2 : (exS t B (m + 1)).1.getD (16 + 4 * m + q) 0 = x8 ((exS t B m).1.getD (16 + 4 * m + q - 16) 0) ((exW t (exS t B m).1 (exS t B m).2 (16 + 4 * m)).getD (16 + 4 * m + q - (16 + 4 * m)) 0) := by
    show (exPut (exS t B m).1 (exW t (exS t B m).1 (exS t B m).2 (16 + 4 * m)) (16 + 4 * m) 4).getD (16 + 4 * m + q) 0 = _
    rw [put_at _ _ _ (by omega) 4 (by omega) _ (by rw [exS_len, hB]; omega), if_pos (by omega)]
  have ew : exW t (exS t B 40).1 (exS t B m).2 (16 + 4 * m) = exW t (exS t B m).1 (exS t B m).2 (16 + 4 * m) := by
    by_cases h : (16 + 4 * m) % 16 = 0
    · rw [exW_pos _ _ _ _ h, exW_pos _ _ _ _ h, st _ (by omega), st _ (by omega), st _ (by omega), st _ (by omega)]
    · rw [exW_neg _ _ _ _ h, exW_neg _ _ _ _ h, st _ (by omega), st _ (by omega), st _ (by omega), st _ (by omega)]
  rw [s1, s2, ew, st (16 + 4 * m + q - 16) (by omega), show 16 + 4 * m + q - (16 + 4 * m) = q from by omega]
def Rz (t B : List Int) (m q : Nat) : Int := if q = 0 then (exS t B m).2 else (exS t B (m + 1)).2
theorem keys_step (B : List Int) (hB : B.length = 176) (h8 : U8s B) (m q k : Nat) (hm : m < 40) (hq : q < 4) (hk : 20 ≤ k) :
    legatelaw04_AesKeys.l0 (k + 1) true (strOfNums (exS sboxL B 40).1) (Rz sboxL B m q) ((16 + 4 * m + q : Nat) : Int) = legatelaw04_AesKeys.l0 k true (strOfNums (exS sboxL B 40).1) (Rz sboxL B m (q + 1)) ((16 + 4 * m + q + 1 : Nat) : Int) := by
  have hrel := key_rel sboxL B hB m q hm hq
  have hlen : (exS sboxL B 40).1.length = 176 := by rw [exS_len, hB]
  have hu := exS_u8 sboxL B h8 40
  have hR1 : Rz sboxL B m (q + 1) = (exS sboxL B (m + 1)).2 := rfl
  have hR2 : (exS sboxL B (m + 1)).2 = exR (exS sboxL B m).2 (16 + 4 * m) := rfl
  have hR0 : Rz sboxL B m q = if q = 0 then (exS sboxL B m).2 else exR (exS sboxL B m).2 (16 + 4 * m) := rfl
  obtain ⟨r, hr, er⟩ := nat_of_u8 (exR_u8 sboxL B m)
  rw [hR1, hR2, hR0]
  rw [er] at hrel ⊢
  obtain ⟨E, hE⟩ : ∃ E, E = (exS sboxL B 40).1 := ⟨_, rfl⟩
  rw [← hE] at hrel hlen hu ⊢
  clear hE hR1 hR2 hR0 er
  have hsz : (strOfNums E).size = 176 := by rw [strN_size, hlen]
  have at_ : ∀ j : Nat, j < 176 → bt (strOfNums E) (j : Int) = E.getD j 0 := fun j hj => strN_at E hu j (by omega)
  obtain ⟨i0, hi0⟩ : ∃ i0, i0 = 16 + 4 * m := ⟨_, rfl⟩
  rw [← hi0] at hrel ⊢
  obtain ⟨i, hi⟩ : ∃ i, i = i0 + q := ⟨_, rfl⟩
  rw [← hi] at hrel ⊢
  have E1 := Aside0.mk (show wrap64 ((i : Int) - 4) = ((i - 4 : Nat) : Int) from by unfold wrap64; omega)
  have E2 := Aside0.mk (show wrap64 ((i : Int) - 16) = ((i - 16 : Nat) : Int) from by unfold wrap64; omega)
  have E3 := Aside0.mk (show wrap64 ((i : Int) + 1) = ((i + 1 : Nat) : Int) from by unfold wrap64; omega)
  have E4 := Aside0.mk (show Int.tmod (i : Int) 16 = ((i % 16 : Nat) : Int) from by rw [Int.tmod_eq_emod_of_nonneg (by omega)]; omega)
  have E5 := Aside0.mk (show Int.tmod ((i + 1 : Nat) : Int) 4 = (((i + 1) % 4 : Nat) : Int) from by rw [Int.tmod_eq_emod_of_nonneg (by omega)]; omega)
  have E6 := Aside0.mk (show wrap64 ((i : Int) - ((i % 16 : Nat) : Int)) = ((i - i % 16 : Nat) : Int) from by unfold wrap64; omega)
  have E7 := Aside0.mk (show wrap64 (((i - i % 16 : Nat) : Int) - 4) = ((i - i % 16 - 4 : Nat) : Int) from by unfold wrap64; omega)
  have E8 := Aside0.mk (show wrap64 (((i - i % 16 - 4 : Nat) : Int) + (((i + 1) % 4 : Nat) : Int)) = ((i - i % 16 - 4 + (i + 1) % 4 : Nat) : Int) from by unfold wrap64; omega)
  rw [legatelaw04_AesKeys.l0, E3.out, E4.out, E5.out, E6.out, E7.out, E8.out, E1.out, E2.out, if_pos (by omega), if_pos (by omega), if_pos (by omega)]
  clear E1 E2 E3 E4 E5 E6 E7 E8
  by_cases h4 : i0 % 16 = 0
  · obtain ⟨j, hj⟩ : ∃ j, j = i - i % 16 - 4 + (i + 1) % 4 := ⟨_, rfl⟩
    rw [← hj]
    have hj2 : j = i0 - 4 + (q + 1) % 4 := by omega
    obtain ⟨v, hv, ev⟩ := hu.get j
    have sv := sb_nat v hv
    have hw : (exW sboxL E (r : Int) i0).getD q 0 = if q = 0 then x8 (sbN v : Int) (r : Int) else (sbN v : Int) := by
      rw [exW_pos _ _ _ _ h4]
      have hq4 : q = 0 ∨ q = 1 ∨ q = 2 ∨ q = 3 := by omega
      rcases hq4 with rfl | rfl | rfl | rfl
      · rw [if_pos rfl, ← sv.1, show i0 - 3 = j from by omega, ev]; rfl
      · rw [if_neg (by omega), ← sv.1, show i0 - 2 = j from by omega, ev]; rfl
      · rw [if_neg (by omega), ← sv.1, show i0 - 1 = j from by omega, ev]; rfl
      · rw [if_neg (by omega), ← sv.1, show i0 - 4 = j from by omega, ev]; rfl
    rw [hw] at hrel
    rw [if_pos (by omega), if_pos (by omega), if_pos (by omega), at_ j (by omega), ev, own_swap v hv, Option.bind_some]
    by_cases hq0 : q = 0
    · have t2_ := own_times k r 2 (by omega) hr (by omega)
      rw [mB_two] at t2_
      have t2 : aes_Times.f k (r : Int) 2 = some (tN r : Int) := t2_
      rw [if_pos hq0] at hrel
      simp only [x8] at hrel
      rw [if_pos hq0, if_pos (by omega), t2, Option.bind_some, if_pos (by omega), if_pos (by omega), if_pos (by omega), if_pos (by omega), at_ i (by omega), at_ (i - 16) (by omega), if_pos hrel, exR_pos _ _ h4, tw_nat r hr]
    · rw [if_neg hq0] at hrel
      simp only [x8] at hrel
      rw [if_neg hq0, if_neg (by omega), if_pos (by omega), if_pos (by omega), if_pos (by omega), if_pos (by omega), at_ i (by omega), at_ (i - 16) (by omega), if_pos hrel]
  · have hw : (exW sboxL E (r : Int) i0).getD q 0 = E.getD (i - 4) 0 := by
      rw [exW_neg _ _ _ _ h4]
      have hq4 : q = 0 ∨ q = 1 ∨ q = 2 ∨ q = 3 := by omega
      rcases hq4 with rfl | rfl | rfl | rfl
      · rw [show i - 4 = i0 - 4 from by omega]; rfl
      · rw [show i - 4 = i0 - 3 from by omega]; rfl
      · rw [show i - 4 = i0 - 2 from by omega]; rfl
      · rw [show i - 4 = i0 - 1 from by omega]; rfl
    rw [hw] at hrel
    simp only [x8] at hrel
    have hR : (if q = 0 then (r : Int) else exR (r : Int) i0) = exR (r : Int) i0 := by
      rw [exR_neg _ _ h4]
      split <;> rfl
    rw [hR, if_neg (by omega), if_pos (by omega), if_pos (by omega), if_pos (by omega), if_pos (by omega), at_ i (by omega), at_ (i - 16) (by omega), at_ (i - 4) (by omega), if_pos hrel]
theorem keys_col (B : List Int) (hB : B.length = 176) (h8 : U8s B) (m k : Nat) (hm : m < 40) (hk : 20 ≤ k) :
    legatelaw04_AesKeys.l0 (k + 4) true (strOfNums (exS sboxL B 40).1) (exS sboxL B m).2 ((16 + 4 * m : Nat) : Int) = legatelaw04_AesKeys.l0 k true (strOfNums (exS sboxL B 40).1) (exS sboxL B (m + 1)).2 ((16 + 4 * (m + 1) : Nat) : Int) := by
  have s0 := keys_step B hB h8 m 0 (k + 3) hm (by omega) (by omega)
  have s1 := keys_step B hB h8 m 1 (k + 2) hm (by omega) (by omega)
  have s2 := keys_step B hB h8 m 2 (k + 1) hm (by omega) (by omega)
  have s3 := keys_step B hB h8 m 3 k hm (by omega) (by omega)
  exact s0.trans (s1.trans (s2.trans s3))
theorem keys_run (B : List Int) (hB : B.length = 176) (h8 : U8s B) : ∀ (d m k : Nat), m + d = 40 → 20 ≤ k →
    legatelaw04_AesKeys.l0 (k + 4 * d) true (strOfNums (exS sboxL B 40).1) (exS sboxL B m).2 ((16 + 4 * m : Nat) : Int) = some true := by
  intro d
  induction d with
  | zero =>
    intro m k hm hk
    obtain rfl : m = 40 := by omega
    obtain ⟨k, rfl⟩ : ∃ j, k = j + 1 := ⟨k - 1, by omega⟩
    rw [show k + 1 + 4 * 0 = k + 1 from by omega, legatelaw04_AesKeys.l0, if_neg (by omega)]
  | succ d ih =>
    intro m k hm hk
    rw [show k + 4 * (d + 1) = (k + 4 * d) + 4 from by omega, keys_col B hB h8 m (k + 4 * d) (by omega) (by omega)]
    exact ih (m + 1) k (by omega) hk
theorem bt_in (s : ByteArray) (j : Nat) (h : j < s.size) : bt s (j : Int) = ((s[j]'h).toNat : Int) := by
  unfold bt
  rw [dif_pos (by simpa using h)]
  simp
theorem head_gen (L : List Int) (hl : L.length = 176) (hu : U8s L) (key : ByteArray) (hk : key.size = 16) (h : ∀ i : Nat, i < 16 → L.getD i 0 = bt key (i : Int)) : (strOfNums L).extract 0 16 = key := by
  have hz : (strOfNums L).size = 176 := by rw [strN_size, hl]
  apply ByteArray.ext
  apply Array.ext
  · have : ((strOfNums L).extract 0 16).size = 16 := by rw [ByteArray.size_extract, hz]; omega
    show ((strOfNums L).extract 0 16).size = key.size
    rw [this, hk]
  · intro i h1 h2
    have hi : i < 16 := by rw [← hk]; exact h2
    have e1 : bt (strOfNums L) (i : Int) = bt key (i : Int) := by rw [strN_at _ hu i (by omega), h i hi]
    have hs : i < (strOfNums L).size := by omega
    rw [bt_in (strOfNums L) i hs, bt_in key i (by omega)] at e1
    have e2 : ((strOfNums L)[i]'hs).toNat = (key[i]'(by omega)).toNat := by exact_mod_cast e1
    have e3 := UInt8.toNat_inj.1 e2
    have e4 : ((strOfNums L).extract 0 16)[i]'h1 = (strOfNums L)[0 + i]'(by omega) := ByteArray.getElem_extract ..
    have e5 : (strOfNums L)[0 + i]'(by omega) = (strOfNums L)[i]'hs := by simp only [Nat.zero_add]
    exact e4.trans (e5.trans e3)
theorem head_key (key : ByteArray) (hk : key.size = 16) : (strOfNums (expandL sboxL key)).extract 0 16 = key := by
  have hB : (headB key 176).length = 176 := headB_len _ _ (by omega)
  have hu : U8s (expandL sboxL key) := exS_u8 sboxL _ (headB_u8 key 176) 40
  have hl : (expandL sboxL key).length = 176 := by unfold expandL; rw [exS_len, hB]
  refine head_gen _ hl hu key hk fun i hi => ?_
  have h := ex_stable sboxL (headB key 176) hB 0 i (by omega) (by omega) 40
  rw [show 0 + 40 = 40 from rfl] at h
  show (exS sboxL (headB key 176) 40).1.getD i 0 = _
  rw [h]
  show (headB key 176).getD i 0 = _
  rw [head_bl key hk, bl_at _ _ _ _ (by rw [z176_len]; omega), if_pos hi]
theorem keys_k (key : ByteArray) (k : Nat) (hk : 1000 ≤ k) : legatelaw04_AesKeys.f k key = some true := by
  unfold legatelaw04_AesKeys.f
  rw [works04 k (by omega), Option.bind_some, if_pos rfl]
  unfold aes_Expand.f
  by_cases h : key.size = 16
  · have hB : (headB key 176).length = 176 := headB_len _ _ (by omega)
    have hs : (strOfNums (expandL sboxL key)).size = 176 := by rw [strN_size]; unfold expandL; rw [exS_len, hB]
    rw [if_pos h, Option.bind_some, swaps_box, if_pos (by omega), if_pos (by omega), if_pos (by omega), if_pos (by omega)]
    rw [head_key key h]
    simp only [bne_self_eq_false]
    obtain ⟨j, hj⟩ : ∃ j, k = (j + 4 * 40) + 1 := ⟨k - 161, by omega⟩
    subst hj
    rw [legatelaw04_AesKeys.j0, if_neg (by simp)]
    exact keys_run (headB key 176) hB (headB_u8 key 176) 40 0 j (by omega) (by omega)
  · rw [if_neg h, Option.bind_some, if_neg (by omega)]
    rw [ByteArray.toList_eq]
    rfl
theorem AesKeys : legatelaw04_AesKeys.Pure := by
  intro key _
  exact ⟨1000, keys_k key 1000 (by omega)⟩

end Go.Proofs.Ytkgijkfcmbpgpaa.Pure
