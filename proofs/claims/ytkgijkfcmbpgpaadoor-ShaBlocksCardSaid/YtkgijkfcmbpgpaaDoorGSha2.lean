import Derived.Test.YtkgijkfcmbpgpaaDoorGSha1
namespace Go.Proofs.YtkgijkfcmbpgpaaDoor.Giv
open Go.RowKit Go.Proofs.YtkgijkfcmbpgpaaDoorW.PrintWords Go.Proofs.YtkgijkfcmbpgpaaDoorW.PrintLast Go.Proofs.YtkgijkfcmbpgpaaDoorW.PrintMore Go.Proofs.YtkgijkfcmbpgpaaDoor.PSub
set_option linter.unusedVariables false
set_option linter.unusedSimpArgs false
def sprX (x y w7 w16 : Int) : Int :=
  IntKind.u32.wrap (IntKind.u32.wrap (IntKind.u32.wrap (Go.bits .xor .u32 (Go.bits .xor .u32 (rr y 17) (rr y 19)) (y / 1024) + w7) + Go.bits .xor .u32 (Go.bits .xor .u32 (rr x 7) (rr x 18)) (x / 8)) + w16)
def sprStep (l : List Int) (t : Nat) : Int := sprX (l.getD (t - 15) 0) (l.getD (t - 2) 0) (l.getD (t - 7) 0) (l.getD (t - 16) 0)
def sprTo (s : ByteArray) : Nat → List Int
  | 0 => wordsTo s 64 16
  | t + 1 => (sprTo s t).set (t + 16) (sprStep (sprTo s t) (t + 16))
theorem sprTo_len (s : ByteArray) (t : Nat) : (sprTo s t).length = 64 := by
  induction t with
  | zero => simp [sprTo, wordsTo_len]
  | succ t ih => simp [sprTo, ih]

theorem spr_next (s : ByteArray) (k : Nat) : sprTo s (k + 1) = (sprTo s k).set (k + 16) (sprX ((sprTo s k)[k + 1]?.getD 0) ((sprTo s k)[k + 14]?.getD 0) ((sprTo s k)[k + 9]?.getD 0) ((sprTo s k)[k]?.getD 0)) := by
  show (sprTo s k).set (k + 16) (sprX ((sprTo s k).getD (k + 16 - 15) 0) ((sprTo s k).getD (k + 16 - 2) 0) ((sprTo s k).getD (k + 16 - 7) 0) ((sprTo s k).getD (k + 16 - 16) 0)) = _
  rw [show k + 16 - 15 = k + 1 from by omega, show k + 16 - 2 = k + 14 from by omega, show k + 16 - 7 = k + 9 from by omega, show k + 16 - 16 = k from by omega]
  simp only [List.getD_eq_getElem?_getD]

set_option maxHeartbeats 1000000 in
set_option maxRecDepth 100000 in
theorem sha_spread (s : ByteArray) (hs : 64 ≤ s.size) (hm : s.size ≤ 9223372036854775807) (w : World) : Calls Tryd.prog 77 #[.string s] w fun e w' => e = .returned (.agg (AK .u32 (sprTo s 48))) ∧ Below w.heap.size w w' := by
  go_enter Tryd.func77, Tryd.ntmps77
  go_wp2_with fail
  go_loopw [9] (fun v9 wr => ∃ k : Nat, k ≤ 16 ∧ v9 = .int .i64 k ∧ wr.heap[w.heap.size + 1]? = some (.cells (AK .u32 (wordsTo s 64 k)) 74 (0, 0)) ∧ wr.heap[w.heap.size]? = some (.cells (AK .u32 (wordsTo s 64 0)) 74 (0, 0)) ∧ Below w.heap.size w wr) (fun v9 _ => 16 - (intOf v9).toNat)
  case atStart =>
    refine ⟨0, by omega, rfl, heap_alloc2_new _ _ _, heap_alloc2_old _ _ _, ((Below.refl _ _).alloc (Nat.le_refl _) _).alloc (by simp) _⟩
  case round =>
    obtain ⟨k, hk, rfl, hb1, hb0, hB⟩ := hrel
    by_cases hlt : k < 16
    · have hw := word_some s k (by omega)
      have hl := wordsTo_len s 64 k
      have hc := AK_cell hb1 k (by omega)
      have hf := frozen_of_row wr (w.heap.size + 1) k _ _ hb1
      go_wp2_with fail
      refine (sha_word.calls _ _ _ hw).mono ?_
      rintro e w1 ⟨rfl, m, rfl⟩
      have HB1 := Aside0.mk hb1
      have HB0 := Aside0.mk hb0
      have HW := Aside0.mk hw
      have HL := Aside0.mk hl
      clear hb1 hb0 hw hl
      go_wp2
      go_roundw
      case rel =>
        refine ⟨k + 1, by omega, by go_num, ?_, ?_, ?_⟩
        · rw [heap_setCell_same (wr.drewN m) _ _ _ _ _ HB1.out, AK_set, wordsTo_set]
        · rw [heap_setCell_other _ _ _ _ (by simp)]; exact HB0.out
        · exact (pw_below_drewN hB m).setCell (by simp) _
      case measure => simp [intOf]; omega
    · have h16 : 16 ≤ k := by omega
      have HB1 := Aside0.mk (show wr.heap[w.heap.size + 1]? = some (.cells (AK .u32 (sprTo s 0)) 74 (0, 0)) from by rw [hb1, show k = 16 from by omega]; rfl)
      have HB0 := Aside0.mk hb0
      clear hb1 hb0
      go_wp2_with fail
      go_loopw [6] (fun v6 wq => ∃ k : Nat, k ≤ 48 ∧ v6 = .int .i64 ((k : Int) + 16) ∧ Aside0 (wq.heap[w.heap.size + 1]? = some (.cells (AK .u32 (sprTo s k)) 74 (0, 0))) ∧ Aside0 (wq.heap[w.heap.size]? = some (.cells (AK .u32 (wordsTo s 64 0)) 74 (0, 0))) ∧ Below w.heap.size w wq) (fun v6 _ => 64 - (intOf v6).toNat)
      case atStart => exact ⟨0, by omega, rfl, HB1, HB0, hB⟩
      case round =>
        clear HB1 HB0
        obtain ⟨k, hk, rfl, HB1, HB0, hB⟩ := hrel
        by_cases hlt : k < 48
        · go_wp2_with fail
          have hl := sprTo_len s k
          have hc1 := AK_cell HB1.out (k + 1) (by omega)
          have hc2 := AK_cell HB1.out (k + 14) (by omega)
          have e1 : IntKind.i64.wrap ((k : Int) + 16 - 15) = (k : Int) + 1 := by rw [IntWalk.i64_in _ (by omega)]; omega
          have e2 : IntKind.i64.wrap ((k : Int) + 16 - 2) = (k : Int) + 14 := by rw [IntWalk.i64_in _ (by omega)]; omega
          have n1 : ((k : Int) + 1).toNat = k + 1 := by omega
          have n2 : ((k : Int) + 14).toNat = k + 14 := by omega
          have p1 : (0 : Int) ≤ (k : Int) + 1 := by omega
          have p2 : (0 : Int) ≤ (k : Int) + 14 := by omega
          have q1 : (k : Int) + 1 < 64 := by omega
          have q2 : (k : Int) + 14 < 64 := by omega
          go_quiet (fail)
          clear hc1 hc2 e1 e2 n1 n2 p1 p2 q1 q2
          have hc1 := AK_cell HB1.out (k + 9) (by omega)
          have hc2 := AK_cell HB1.out k (by omega)
          have hc3 := AK_cell HB1.out (k + 16) (by omega)
          have hf3 := frozen_of_row wr (w.heap.size + 1) (k + 16) _ _ HB1.out
          have K1 := Aside0.mk (fun (m : Nat) (v : Value) => (World.cell?_setCell_other (w := wr.drewN m) (a := ⟨w.heap.size + 1, k + 16, none⟩) (b := ⟨w.heap.size + 1, k + 9, none⟩) (v := v) (by simp)).trans hc1)
          have K2 := Aside0.mk (fun (m : Nat) (v : Value) => (World.cell?_setCell_other (w := wr.drewN m) (a := ⟨w.heap.size + 1, k + 16, none⟩) (b := ⟨w.heap.size + 1, k, none⟩) (v := v) (by simp)).trans hc2)
          have e1 : IntKind.i64.wrap ((k : Int) + 16 - 7) = (k : Int) + 9 := by rw [IntWalk.i64_in _ (by omega)]; omega
          have e2 : IntKind.i64.wrap ((k : Int) + 16 - 16) = (k : Int) := by rw [IntWalk.i64_in _ (by omega)]; omega
          have e3 : IntKind.i64.wrap (k : Int) = (k : Int) := by rw [IntWalk.i64_in _ (by omega)]
          have p2 : (0 : Int) ≤ (k : Int) := by omega
          have n1 : ((k : Int) + 9).toNat = k + 9 := by omega
          have n3 : ((k : Int) + 16).toNat = k + 16 := by omega
          have p1 : (0 : Int) ≤ (k : Int) + 9 := by omega
          have p3 : (0 : Int) ≤ (k : Int) + 16 := by omega
          have q1 : (k : Int) + 9 < 64 := by omega
          have q2 : (k : Int) < 64 := by omega
          have q3 : (k : Int) + 16 < 64 := by omega
          go_wp2_with fail
          go_region_held3 (fun w' => w'.cell? ⟨w.heap.size + 1, k + 9, none⟩ = some (.int .u32 ((sprTo s k).getD (k + 9) 0)) ∧ w'.cell? ⟨w.heap.size + 1, k, none⟩ = some (.int .u32 ((sprTo s k).getD k 0)))
            (first | exact ⟨K1.out _ _, K2.out _ _⟩ | go_keep)
            (first | (go_at_call 85; refine (right85 _ _ (by omega) (by omega) _).mono ?_; rintro e w' ⟨rfl, m, rfl⟩))
          clear hc1 hc2 hc3 hf3 K1 K2 e1 e2 e3 p1 p2 p3 q1 q2 q3 n1 n3
          go_wp2
          go_roundw
          case rel =>
            refine ⟨k + 1, by omega, by go_num, ⟨?_⟩, ⟨?_⟩, ?_⟩
            · refine (AK_store (w := wr.drewN _) HB1.out (k + 16) _).trans ?_
              rw [spr_next]; rfl
            · rw [heap_setCell_other _ _ _ _ (by simp)]; exact HB0.out
            · exact (pw_below_drewN hB _).setCell (by simp) _
          case measure => simp [intOf]; omega
        · obtain rfl : k = 48 := by omega
          have hl := sprTo_len s 48
          have hl0 := wordsTo_len s 64 0
          go_wp2_with (first | (refine wpList_load_row rfl 74 (.tmp 4) rfl (w.heap.size + 1) rfl 74 _ (0, 0) _ HB1.out Tryd.underlying74 rfl (by rw [AK_size, hl]; kernel_rfl) ?_) | (refine wpList_store_row rfl 74 (.tmp 2) (.tmp 65) rfl w.heap.size _ rfl rfl 74 _ HB0.out (by rw [AK_size, hl]; kernel_rfl) (by simp only [AK_size, hl, hl0]) (AK_one _ _) ?_))
          exact bodyPost_ret (results_cell_row (P := Tryd.prog) (p := 2) (ty := 74) rfl _ _ w.heap.size 74 _ (0, 0) _ rfl (setRow_heap _ _ _ _ _ _ HB0.out) Tryd.underlying74 rfl (by rw [AK_size, hl]; kernel_rfl)) rfl ⟨rfl, below_setRow hB (Nat.le_refl _) _⟩
end Go.Proofs.YtkgijkfcmbpgpaaDoor.Giv
