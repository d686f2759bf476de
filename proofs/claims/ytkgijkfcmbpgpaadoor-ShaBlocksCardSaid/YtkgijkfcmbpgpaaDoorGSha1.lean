import Derived.Test.YtkgijkfcmbpgpaaDoorGBase
namespace Go.Proofs.YtkgijkfcmbpgpaaDoor.Giv
open Go.RowKit Go.Proofs.YtkgijkfcmbpgpaaDoorW.PrintWords Go.Proofs.YtkgijkfcmbpgpaaDoorW.PrintLast Go.Proofs.YtkgijkfcmbpgpaaDoorW.PrintMore Go.Proofs.YtkgijkfcmbpgpaaDoor.PSub
def wordAt (s : ByteArray) (i : Nat) : Int := (sha_word.f (s.extract (4 * i) s.size)).getD 0
def wordsTo (s : ByteArray) (n k : Nat) : List Int := (List.range n).map fun j => if j < k then wordAt s j else 0
theorem wordsTo_len (s : ByteArray) (n k : Nat) : (wordsTo s n k).length = n := by simp [wordsTo]
theorem wordsTo_set (s : ByteArray) (n k : Nat) : (wordsTo s n k).set k (wordAt s k) = wordsTo s n (k + 1) := by
  apply List.ext_getElem?
  intro i
  simp only [wordsTo, List.getElem?_set, List.length_map, List.length_range, List.getElem?_map]
  by_cases hi : i < n
  · by_cases hk : k = i
    · subst hk; simp [hi]
    · simp [hi, hk]; congr 1; simp; omega
  · simp [hi]; intro h; omega

theorem word_some (s : ByteArray) (i : Nat) (h : 4 * i + 4 ≤ s.size) : sha_word.f (s.extract (4 * i) s.size) = some (wordAt s i) := by
  have e : ((s.extract (4 * i) s.size).size : Int) ≥ 4 := by simp; omega
  unfold wordAt
  unfold sha_word.f
  rw [if_pos (by omega), if_pos (by omega), if_pos (by omega), if_pos (by omega)]
  rfl

set_option maxRecDepth 100000 in
theorem sha_read (s : ByteArray) (hs : 32 ≤ s.size) (hm : s.size ≤ 9223372036854775807) (w : World) : Calls Tryd.prog 59 #[.string s] w fun e w' => e = .returned (.agg (AK .u32 (wordsTo s 8 8))) ∧ Below w.heap.size w w' := by
  go_enter Tryd.func59, Tryd.ntmps59
  go_wp2_with fail
  go_loopw [5] (fun v5 wr => ∃ k : Nat, k ≤ 8 ∧ v5 = .int .i64 k ∧ wr.heap[w.heap.size + 1]? = some (.cells (AK .u32 (wordsTo s 8 k)) 58 (0, 0)) ∧ wr.heap[w.heap.size]? = some (.cells (AK .u32 (wordsTo s 8 0)) 58 (0, 0)) ∧ Below w.heap.size w wr) (fun v5 _ => 8 - (intOf v5).toNat)
  case atStart =>
    refine ⟨0, by omega, rfl, heap_alloc2_new _ _ _, heap_alloc2_old _ _ _, ((Below.refl _ _).alloc (Nat.le_refl _) _).alloc (by simp) _⟩
  case round =>
    obtain ⟨k, hk, rfl, hb1, hb0, hB⟩ := hrel
    by_cases hlt : k < 8
    · have hw := word_some s k (by omega)
      have hl := wordsTo_len s 8 k
      have hc := AK_cell hb1 k (by omega)
      have hf := frozen_of_row wr (w.heap.size + 1) k _ _ hb1
      go_wp2_with fail
      refine (sha_word.calls _ _ _ hw).mono ?_
      rintro e w1 ⟨rfl, m, rfl⟩
      have HB1 := Aside0.mk hb1
      have HB0 := Aside0.mk hb0
      have HW := Aside0.mk hw
      have HL := Aside0.mk hl
      clear hb1 hb0 hw hl
      go_wp2
      go_roundw
      case rel =>
        refine ⟨k + 1, by omega, by go_num, ?_, ?_, ?_⟩
        · rw [heap_setCell_same (wr.drewN m) _ _ _ _ _ HB1.out, AK_set, wordsTo_set]
        · rw [heap_setCell_other _ _ _ _ (by simp)]; exact HB0.out
        · exact (pw_below_drewN hB m).setCell (by simp) _
      case measure => simp [intOf]; omega
    · obtain rfl : k = 8 := by omega
      have hL := wordsTo_len s 8 8
      have HL := Aside0.mk hL
      clear hL
      have HB1 := Aside0.mk hb1
      have HB0 := Aside0.mk hb0
      clear hb1 hb0
      go_wp2_with (first | (refine wpList_load_row rfl 58 (.tmp 3) rfl (w.heap.size + 1) rfl 58 _ (0, 0) _ HB1.out Tryd.underlying58 rfl (by kernel_rfl) ?_) | (refine wpList_store_row rfl 58 (.tmp 2) (.tmp 16) rfl w.heap.size _ rfl rfl 58 _ HB0.out (by kernel_rfl) (by simp only [AK_size, wordsTo_len]) (AK_one _ _) ?_))
      exact bodyPost_ret (results_cell_row (P := Tryd.prog) (p := 2) (ty := 58) rfl _ _ w.heap.size 58 _ (0, 0) _ rfl (setRow_heap _ _ _ _ _ _ HB0.out) Tryd.underlying58 rfl (by kernel_rfl)) rfl ⟨rfl, below_setRow hB (Nat.le_refl _) _⟩
def wordBytes (x : Int) : List Int := [(x / 16777216) % 256, (x / 65536) % 256, (x / 256) % 256, x % 256]
def textTo (v : List Int) (k : Nat) : List Int := (v.take k).flatMap wordBytes
theorem textTo_len (v : List Int) (k : Nat) (h : k ≤ v.length) : (textTo v k).length = 4 * k := by
  induction k with
  | zero => simp [textTo]
  | succ k ih =>
    have := ih (by omega)
    unfold textTo at this ⊢
    rw [List.take_succ_eq_append_getElem (by omega), List.flatMap_append]
    simp [this, wordBytes]; omega
theorem textTo_succ (v : List Int) (k : Nat) (h : k < v.length) : textTo v (k + 1) = textTo v k ++ wordBytes (v.getD k 0) := by
  unfold textTo
  rw [List.take_succ_eq_append_getElem h, List.flatMap_append]
  simp [h]
theorem news_alloc (W : World) (cs : List Value) (t : TypeId) : ∀ (j : Nat) (u : Value), cs[j]? = some u → (W.alloc (.cells cs.toArray t)).cell? ((⟨W.heap.size, 0, none⟩ : Addr).add j) = some u := by
  intro j u h
  have e : (⟨W.heap.size, 0, none⟩ : Addr).add j = ⟨W.heap.size, j, none⟩ := by unfold Addr.add; split <;> simp_all
  rw [e, cell_of_row _ _ j _ _ _ (heap_alloc_new W (.cells cs.toArray t))]
  simpa using h
theorem nums_one (q : IntKind) (l : List Int) : ∀ u ∈ nums q l, u.oneCell' = true := by
  intro u hu; simp only [nums, List.mem_map] at hu; obtain ⟨x, _, rfl⟩ := hu; rfl
theorem info5 : (Tryd.prog.info? 5).map (fun i => (i.zero, i.size, i.bytes)) = some (some (.int .u8 0), 1, 1) := by kernel_rfl
theorem agg56 : ∀ w, (isAgg 56).run Tryd.prog w = .ok false w := fun _ => by kernel_rfl
theorem size56 : ∀ w, (sizeOf 56).run Tryd.prog w = .ok 1 w := fun _ => by kernel_rfl

set_option maxRecDepth 100000 in
theorem sha_text (v : List Int) (hv : v.length = 8) (w : World) : Calls Tryd.prog 57 #[.agg (AK .u32 v)] w fun e w' => e = .returned (.string (strOfNums (textTo v 8))) ∧ Below w.heap.size w w' := by
  go_enter Tryd.func57, Tryd.ntmps57
  have hb1 := Aside0.mk (heap_alloc_new w (.cells (AK .u32 v) 58))
  go_wp2_with (refine wpList_load_row rfl 58 (.tmp 1) rfl w.heap.size rfl 58 _ (0, 0) _ hb1.out Tryd.underlying58 rfl (by rw [AK_size, hv]; kernel_rfl) ?_)
  clear hb1
  go_loopw [3, 7] (fun v3 v7 wr => ∃ k : Nat, k ≤ 8 ∧ v7 = .int .i64 k ∧ Aside0 (wr.ownsRow w.heap.size 5 1 v3 (4 * k) (nums .u8 (textTo v k))) ∧ Below w.heap.size w wr) (fun _ v7 _ => 8 - (intOf v7).toNat)
  case atStart =>
    exact ⟨0, by omega, rfl, ⟨World.ownsRow_nil _ _ _ _⟩, (Below.refl _ _).alloc (Nat.le_refl _) _⟩
  case round =>
    obtain ⟨k, hk, rfl, HO, hB⟩ := hrel
    by_cases hlt : k < 8
    · have hidx := run_index_AK (q := .u32) (l := v) Tryd.underlying58 hv agg56 size56 k (by omega)
      have hts := textTo_succ v k (by omega)
      have HT := Aside0.mk hts
      clear hts
      obtain ⟨i0, hi, hz0, hz1, hz2⟩ := info_parts info5
      go_wp2_with (at_builtin; refine wpList_append_own _ rfl (.tmp 10) (.tmp 22) 44 rfl w.heap.size 5 i0 (.int .u8 0) 1 1 Tryd.underlying44 hi hz0 hz1 hz2 rfl (by decide) u3 (4 * k) _ rfl (HO.out.alloc _) ⟨wr.heap.size, 0, none⟩ 4 4 (nums .u8 (wordBytes v[k])) rfl rfl (news_alloc _ _ _) (nums_one _ _) ?c3 ?c4 ?c5 ?_; (case c3 => unfold maxLen; omega); (case c4 => omega); (case c5 => have := hB.size; simp; omega); intro v' w1 hown hg hn; have HO1 := Aside0.mk hown; have HG := Aside0.mk hg; clear hown hg hn)
      go_roundw
      case rel =>
        refine ⟨k + 1, by omega, by go_num, ⟨?_⟩, ?_⟩
        · have e : nums .u8 (textTo v (k + 1)) = nums .u8 (textTo v k) ++ nums .u8 (wordBytes v[k]) := by
            rw [HT.out]; simp [nums, hlt, hv]
          rw [e]
          exact HO1.out
        · exact (hB.alloc hB.size _).grown HG.out (by have := hB.size; simp; omega) (fun j e => own_base HO.out j e)
      case measure => simp [intOf]; omega
    · obtain rfl : k = 8 := by omega
      have hcv := own_string (P := Tryd.prog) Tryd.underlying44 Tryd.underlying5 Tryd.underlying9 HO.out
      go_wp2
      go_ret
      exact ⟨rfl, hB⟩
theorem bits_nonneg (o : BinOp) (q : IntKind) (hq : ∀ n : Nat, 0 ≤ q.wrap (n : Int)) (x y : Int) (h : o = .and ∨ o = .or ∨ o = .xor) : 0 ≤ Go.bits o q x y := by
  unfold Go.bits
  rcases h with rfl | rfl | rfl <;> simp <;> exact hq _
theorem u64_wrap_nonneg (x : Int) : 0 ≤ IntKind.u64.wrap x := by
  have e : IntKind.u64.wrap x = x % 18446744073709551616 := by rfl
  rw [e]
  omega
theorem rot_some (x k : Int) : ∃ r, bits_RotateLeft32.f x k = some r := by
  unfold bits_RotateLeft32.f
  rw [if_pos (bits_nonneg _ _ (fun n => u64_wrap_nonneg _) _ _ (.inl rfl)), if_pos (u64_wrap_nonneg _)]
  exact ⟨_, rfl⟩
def rr (x k : Int) : Int := (bits_RotateLeft32.f x (-k)).getD 0
theorem rr_some (x k : Int) : bits_RotateLeft32.f x (-k) = some (rr x k) := by
  obtain ⟨r, hr⟩ := rot_some x (-k)
  unfold rr; rw [hr]; rfl
set_option maxRecDepth 100000 in
theorem right85 (x k : Int) (h0 : 0 ≤ k) (h1 : k ≤ 64) (w : World) : Calls Tryd.prog 85 #[.int .u32 x, .int .i64 k] w fun e w' => e = .returned (.int .u32 (rr x k)) ∧ Drawn0 w w' := by
  have hr := Aside0.mk (rr_some x k)
  go_enter Tryd.func85, Tryd.ntmps85
  go_wp2_with fail
  refine (bits_RotateLeft32.calls _ _ _ _ hr.out).mono ?_
  rintro e w1 ⟨rfl, m, rfl⟩
  go_wp2
  go_ret
  exact ⟨rfl, m, rfl⟩
set_option maxRecDepth 100000 in
theorem right75 (x k : Int) (h0 : 0 ≤ k) (h1 : k ≤ 64) (w : World) : Calls Tryd.prog 75 #[.int .u32 x, .int .i64 k] w fun e w' => e = .returned (.int .u32 (rr x k)) ∧ Drawn0 w w' := by
  have hr := Aside0.mk (rr_some x k)
  go_enter Tryd.func75, Tryd.ntmps75
  go_wp2_with fail
  refine (bits_RotateLeft32.calls _ _ _ _ hr.out).mono ?_
  rintro e w1 ⟨rfl, m, rfl⟩
  go_wp2
  go_ret
  exact ⟨rfl, m, rfl⟩
end Go.Proofs.YtkgijkfcmbpgpaaDoor.Giv
