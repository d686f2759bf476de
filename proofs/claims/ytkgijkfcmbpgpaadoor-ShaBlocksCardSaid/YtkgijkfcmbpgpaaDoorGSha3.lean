import Derived.Test.YtkgijkfcmbpgpaaDoorGSha2
import Derived.Test.YtkgijkfcmbpgpaaDoorGWorld
import Derived.StillTailTactics
namespace Go.Proofs.YtkgijkfcmbpgpaaDoor.Giv
open Go.RowKit Go.Proofs.YtkgijkfcmbpgpaaDoorW.PrintWords Go.Proofs.YtkgijkfcmbpgpaaDoorW.PrintLast Go.Proofs.YtkgijkfcmbpgpaaDoorW.PrintMore Go.Proofs.YtkgijkfcmbpgpaaDoor.PSub
set_option linter.unusedVariables false
set_option linter.unusedSimpArgs false
theorem heap_at {W : World} {o : Obj} {n : Nat} (h : W.heap.size = n) : (W.alloc o).heap[n]? = some o := by subst h; exact heap_alloc_new W o
theorem heap_before {W : World} {o x : Obj} {n : Nat} (h : W.heap[n]? = some x) : (W.alloc o).heap[n]? = some x := by
  have e := Below.heap_alloc W o n (Array.getElem?_eq_some_iff.1 h).1
  exact e.trans h
def bX (e f g p kk ww : Int) : Int := (((p + Go.bits .xor .u32 (Go.bits .xor .u32 (rr e 6) (rr e 11)) (rr e 25) + Go.bits .xor .u32 (Go.bits .and .u32 e f) (Go.bits .and .u32 (Go.bits .xor .u32 (if IntKind.u32.signed = true then -1 else IntKind.u32.max) e) g) + kk) % 4294967296 + ww) % 4294967296)
def bY (a b c : Int) : Int := (Go.bits .xor .u32 (Go.bits .xor .u32 (rr a 2) (rr a 13)) (rr a 22) + Go.bits .xor .u32 (Go.bits .xor .u32 (Go.bits .and .u32 a b) (Go.bits .and .u32 a c)) (Go.bits .and .u32 b c)) % 4294967296
def bStep (l : List Int) (kk ww : Int) : List Int := match l with
  | [a, b, c, d, e, f, g, p] => [(bX e f g p kk ww + bY a b c) % 4294967296, a, b, c, (d + bX e f g p kk ww) % 4294967296, e, f, g]
  | _ => l
theorem list8 {l : List Int} (h : l.length = 8) : ∃ a b c d e f g i, l = [a, b, c, d, e, f, g, i] := by
  match l, h with
  | [a, b, c, d, e, f, g, i], _ => exact ⟨a, b, c, d, e, f, g, i, rfl⟩
def rounds (s : ByteArray) (v : List Int) : Nat → List Int
  | 0 => v
  | k + 1 => bStep (rounds s v k) (keysL.getD k 0) ((sprTo s 48).getD k 0)
theorem bStep_len (l : List Int) (kk ww : Int) (h : l.length = 8) : (bStep l kk ww).length = 8 := by
  obtain ⟨a, b, c, d, e, f, g, i, rfl⟩ := list8 h; rfl
theorem rounds_len (s : ByteArray) (v : List Int) (hv : v.length = 8) (k : Nat) : (rounds s v k).length = 8 := by
  induction k with
  | zero => exact hv
  | succ k ih => exact bStep_len _ _ _ ih

theorem behind_start (w : World) (v : List Int) (Z : Array Value) (w1 : World) (hb : Below ((((w.alloc (.cells (AK .u32 v) 58)).alloc (.cells Z 58)).alloc (.cells Z 58)).setRow (w.heap.size + 1 + 1) (AK .u32 v)).heap.size ((((w.alloc (.cells (AK .u32 v) 58)).alloc (.cells Z 58)).alloc (.cells Z 58)).setRow (w.heap.size + 1 + 1) (AK .u32 v)) w1) :
    w1.heap[w.heap.size]? = some (.cells (AK .u32 v) 58 (0, 0)) ∧ w1.heap[w.heap.size + 1]? = some (.cells Z 58 (0, 0)) ∧ w1.heap[w.heap.size + 2]? = some (.cells (AK .u32 v) 58 (0, 0)) ∧ Below w.heap.size w w1 := by
  refine ⟨(hb.block _ (by simp; omega)).trans ?_, (hb.block _ (by simp)).trans ?_, (hb.block _ (by simp)).trans ?_, ?_⟩
  · rw [setRow_other _ _ _ _ (by omega)]; exact heap_before (heap_before (heap_at rfl))
  · rw [setRow_other _ _ _ _ (by omega)]; exact heap_before (heap_at (by simp))
  · exact setRow_heap _ _ _ _ _ _ (heap_at (by simp))
  · exact (below_setRow ((((Below.refl _ _).alloc (Nat.le_refl _) _).alloc (by simp) _).alloc (by simp; omega) _) (by omega) _).trans (hb.mono (by simp; omega))

def addTo (R v : List Int) : Nat → List Int
  | 0 => R
  | k + 1 => (addTo R v k).set k (((addTo R v k).getD k 0 + v.getD k 0) % 4294967296)
theorem addTo_len (R v : List Int) (k : Nat) : (addTo R v k).length = R.length := by
  induction k with
  | zero => rfl
  | succ k ih => simp [addTo, ih]

/-- The state behind a block. -/
def behindL (s : ByteArray) (v : List Int) : List Int := addTo (rounds s v 64) v 8
theorem behindL_len (s : ByteArray) (v : List Int) (hv : v.length = 8) : (behindL s v).length = 8 := by
  unfold behindL; rw [addTo_len, rounds_len s v hv]

set_option maxHeartbeats 2000000 in
set_option maxRecDepth 100000 in
theorem sha_behind (v : List Int) (hv : v.length = 8) (s : ByteArray) (hs : 64 ≤ s.size) (hm : s.size ≤ 9223372036854775807) (w : World) (hG : GW w) :
    Calls Tryd.prog 56 #[.agg (AK .u32 v), .string s] w fun e w' => e = .returned (.agg (AK .u32 (behindL s v))) ∧ Below w.heap.size w w' := by
  have HV := Aside0.mk hv
  have HG := Aside0.mk hG
  have hG1 := hG.lt
  clear hv hG
  go_enter Tryd.func56, Tryd.ntmps56
  go_wp2_with (first | (refine wpList_load_row rfl 58 (.tmp 2) rfl w.heap.size rfl 58 (AK .u32 v) (0, 0) _ (heap_alloc2_old _ _ _) Tryd.underlying58 rfl (by rw [AK_size, HV.out]; kernel_rfl) ?_) | (refine wpList_store_row rfl 58 (.tmp 6) (.tmp 14) rfl _ (AK .u32 v) rfl rfl 58 _ (heap_at (by simp)) (by rw [AK_size, HV.out]; kernel_rfl) (by rw [AK_size, HV.out]; rfl) (AK_one _ _) ?_) | fail)
  refine (sha_spread s hs hm _).mono ?_
  rintro e w1 ⟨rfl, hb⟩
  obtain ⟨f0, f1, f2, hB⟩ := behind_start w v _ w1 hb
  have F0 := Aside0.mk f0
  have F1 := Aside0.mk f1
  have F2 := Aside0.mk f2
  clear hb f0 f1 f2
  go_wp2_with fail
  go_loopw [17] (fun v17 wr => ∃ k : Nat, k ≤ 64 ∧ v17 = .int .i64 k ∧ Aside0 (wr.heap[w.heap.size]? = some (.cells (AK .u32 (rounds s v k)) 58 (0, 0))) ∧ Aside0 (wr.heap[w.heap.size + 1]? = some (.cells (AK .u32 (List.replicate 8 0)) 58 (0, 0))) ∧ Aside0 (wr.heap[w.heap.size + 2]? = some (.cells (AK .u32 v) 58 (0, 0))) ∧ Below w.heap.size w wr) (fun v17 _ => 64 - (intOf v17).toNat)
  case atStart => exact ⟨0, by omega, rfl, F0, F1, F2, hB⟩
  case round =>
    clear F0 F1 F2 hB
    obtain ⟨k, hk, rfl, F0, F1, F2, hB⟩ := hrel
    by_cases hlt : k < 64
    · obtain ⟨a, b, c, d, e, f, g, p, hR⟩ := list8 (rounds_len s v HV.out k)
      have HR := Aside0.mk hR
      have F0' := F0.out
      rw [hR] at F0'
      clear hR
      have hc0 := AK_cell F0' 0 (by simp)
      have hc4 := AK_cell F0' 4 (by simp)
      have hc1 := AK_cell F0' 1 (by simp)
      have hc2 := AK_cell F0' 2 (by simp)
      have hc3 := AK_cell F0' 3 (by simp)
      have hc5 := AK_cell F0' 5 (by simp)
      have hc6 := AK_cell F0' 6 (by simp)
      have hc7 := AK_cell F0' 7 (by simp)
      have F0'' := Aside0.mk F0'
      clear F0'
      simp only [List.getD_cons_zero, List.getD_cons_succ] at hc0 hc1 hc2 hc3 hc4 hc5 hc6 hc7
      have hidx := run_index_AK (q := .u32) (l := sprTo s 48) Tryd.underlying74 (sprTo_len s 48) agg56 size56 k (by rw [sprTo_len]; exact hlt)
      have hk1 := (HG.out.below hB).key k hlt
      obtain ⟨ww, hww⟩ : ∃ ww, ww = (sprTo s 48).getD k 0 := ⟨_, rfl⟩
      obtain ⟨kk, hkk⟩ : ∃ kk, kk = keysL.getD k 0 := ⟨_, rfl⟩
      rw [← hww] at hidx
      rw [← hkk] at hk1
      have HWW := Aside0.mk hww
      have HKK := Aside0.mk hkk
      clear hww hkk
      go_wp2_with fail
      go_quiet (fail)
      go_wp2_with fail
      go_quiet ((go_at_call 75; (with_reducible refine (right75 _ _ (by omega) (by omega) _).mono ?_); rintro e w' ⟨rfl, ⟨nd, rfl⟩⟩; first | exact ⟨rfl, _, World.drewN_drewN _ _ _⟩ | exact ⟨rfl, _, Eq.trans (World.drewN_drewN _ _ _) (congrArg (World.drewN _) (Nat.add_assoc _ _ _))⟩ | exact ⟨rfl, _, rfl⟩))
      generalize hX : (((p + Go.bits .xor .u32 (Go.bits .xor .u32 (rr e 6) (rr e 11)) (rr e 25) + Go.bits .xor .u32 (Go.bits .and .u32 e f) (Go.bits .and .u32 (Go.bits .xor .u32 (if IntKind.u32.signed = true then -1 else IntKind.u32.max) e) g) + kk) % 4294967296 + ww) % 4294967296) = X
      have HX := Aside0.mk hX
      clear hX
      go_wp2_with fail
      go_quiet ((go_at_call 75; (with_reducible refine (right75 _ _ (by omega) (by omega) _).mono ?_); rintro e w' ⟨rfl, ⟨nd, rfl⟩⟩; first | exact ⟨rfl, _, World.drewN_drewN _ _ _⟩ | exact ⟨rfl, _, Eq.trans (World.drewN_drewN _ _ _) (congrArg (World.drewN _) (Nat.add_assoc _ _ _))⟩ | exact ⟨rfl, _, rfl⟩))
      generalize hY : (Go.bits .xor .u32 (Go.bits .xor .u32 (rr a 2) (rr a 13)) (rr a 22) + Go.bits .xor .u32 (Go.bits .xor .u32 (Go.bits .and .u32 a b) (Go.bits .and .u32 a c)) (Go.bits .and .u32 b c)) % 4294967296 = Y
      have HY := Aside0.mk hY
      clear hY
      have hst : (rounds s v (k + 1)) = [(X + Y) % 4294967296, a, b, c, (d + X) % 4294967296, e, f, g] := by
        show bStep (rounds s v k) (keysL.getD k 0) ((sprTo s 48).getD k 0) = _
        rw [HR.out, ← HKK.out, ← HWW.out, ← HX.out, ← HY.out]
        rfl
      have HST := Aside0.mk hst
      clear hst
      go_wp2_with (refine wpList_store_row rfl 58 (.tmp 2) (.tmp 102) rfl w.heap.size (AK .u32 [(X + Y) % 4294967296, a, b, c, (d + X) % 4294967296, e, f, g]) rfl rfl 58 _ F0.out (by kernel_rfl) (by rw [AK_size, rounds_len s v HV.out k]; rfl) (AK_one _ _) ?_)
      go_roundw
      case rel => exact ⟨k + 1, by omega, by go_num, ⟨by rw [HST.out]; exact setRow_heap (wr.drewN _) _ _ _ _ _ F0.out⟩, ⟨(setRow_other _ _ _ _ (by omega)).trans F1.out⟩, ⟨(setRow_other _ _ _ _ (by omega)).trans F2.out⟩, below_setRow (pw_below_drewN hB _) (Nat.le_refl _) _⟩
      case measure => simp [intOf]; omega
    · have h64 : 64 ≤ k := by omega
      obtain ⟨R, hR⟩ : ∃ R, R = rounds s v k := ⟨_, rfl⟩
      have hRl := rounds_len s v HV.out k
      rw [← hR] at hRl F0
      have HR := Aside0.mk hR
      have HRL := Aside0.mk hRl
      clear hR hRl
      go_wp2_with fail
      go_loopw [104] (fun v104 wq => ∃ j : Nat, j ≤ 8 ∧ v104 = .int .i64 j ∧ Aside0 (wq.heap[w.heap.size]? = some (.cells (AK .u32 (addTo R v j)) 58 (0, 0))) ∧ Aside0 (wq.heap[w.heap.size + 1]? = some (.cells (AK .u32 (List.replicate 8 0)) 58 (0, 0))) ∧ Aside0 (wq.heap[w.heap.size + 2]? = some (.cells (AK .u32 v) 58 (0, 0))) ∧ Below w.heap.size w wq) (fun v104 _ => 8 - (intOf v104).toNat)
      case atStart => exact ⟨0, by omega, rfl, F0, F1, F2, hB⟩
      case round =>
        clear F0 F1 F2 hB
        obtain ⟨j, hj, rfl, F0, F1, F2, hB⟩ := hrel
        by_cases hjt : j < 8
        · have c1 := AK_cell F0.out j (by rw [addTo_len, HRL.out]; exact hjt)
          have c2 := AK_cell F2.out j (by rw [HV.out]; exact hjt)
          have c3 := frozen_of_row wr w.heap.size j _ _ F0.out
          have q0 : (0 : Int) ≤ (j : Int) := by omega
          have q1 : (j : Int) < 8 := by omega
          go_wp2_with fail
          go_still_tail 8, (by kernel_rfl)
          go_wp2
          go_roundw
          case rel =>
            refine ⟨j + 1, by omega, by go_num, ⟨?_⟩, ⟨?_⟩, ⟨?_⟩, ?_⟩
            · have e := AK_store (w := wr) F0.out j (((addTo R v j).getD j 0 + v.getD j 0) % 4294967296)
              simp only [List.getD_eq_getElem?_getD] at e
              simp only [addTo, List.getD_eq_getElem?_getD]
              exact e
            · exact (heap_setCell_other wr _ _ _ (by simp)).trans F1.out
            · exact (heap_setCell_other wr _ _ _ (by simp)).trans F2.out
            · exact (hB.setCell (by simp) _).drew
          case measure => simp [intOf]; omega
        · obtain rfl : j = 8 := by omega
          have hLl := addTo_len R v 8
          rw [HRL.out] at hLl
          have hsp : addTo R v 8 = behindL s v := by rw [HR.out, show k = 64 from by omega]; rfl
          rw [hsp] at F0 hLl
          have HLL := Aside0.mk hLl
          clear hsp hLl
          go_wp2_with (first | (refine wpList_load_row rfl 58 (.tmp 2) rfl w.heap.size rfl 58 (AK .u32 (behindL s v)) (0, 0) _ F0.out Tryd.underlying58 rfl (by rw [AK_size, HLL.out]; kernel_rfl) ?_) | (refine wpList_store_row rfl 58 (.tmp 4) (.tmp 116) rfl (w.heap.size + 1) (AK .u32 (behindL s v)) rfl rfl 58 _ F1.out (by rw [AK_size, HLL.out]; kernel_rfl) (by rw [AK_size, AK_size, HLL.out]; rfl) (AK_one _ _) ?_))
          exact bodyPost_ret (results_cell_row (P := Tryd.prog) (p := 4) (ty := 58) rfl _ _ (w.heap.size + 1) 58 _ (0, 0) _ rfl (setRow_heap _ _ _ _ _ _ F1.out) Tryd.underlying58 rfl (by rw [AK_size, HLL.out]; kernel_rfl)) rfl ⟨rfl, below_setRow hB (by omega) _⟩
end Go.Proofs.YtkgijkfcmbpgpaaDoor.Giv
