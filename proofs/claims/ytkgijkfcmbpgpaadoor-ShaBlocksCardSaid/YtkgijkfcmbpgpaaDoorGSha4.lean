import Derived.Test.YtkgijkfcmbpgpaaDoorGSha3
import Derived.Test.YtkgijkfcmbpgpaaDoorPAllx1
namespace Go.Proofs.YtkgijkfcmbpgpaaDoor.Giv
open Go.RowKit Go.Proofs.YtkgijkfcmbpgpaaDoorW.PrintWords Go.Proofs.YtkgijkfcmbpgpaaDoorW.PrintLast Go.Proofs.YtkgijkfcmbpgpaaDoorW.PrintMore Go.Proofs.YtkgijkfcmbpgpaaDoor.PSub Go.Proofs.YtkgijkfcmbpgpaaDoor
set_option linter.unusedVariables false
set_option linter.unusedSimpArgs false
def blockB (a0 a1 : ByteArray) : ByteArray := strOfNums (textTo (behindL a1 (wordsTo a0 8 8)) 8)
def sha_Block.f (a0 a1 : ByteArray) : Option ByteArray := if a0.size = 32 ∧ a1.size = 64 then some (blockB a0 a1) else some ⟨#[]⟩

set_option maxHeartbeats 1000000 in
set_option maxRecDepth 100000 in
theorem sha_Block.calls (a0 a1 : ByteArray) (r : ByteArray) (w : World) {gw : GW w} (h : sha_Block.f a0 a1 = some r) :
    Calls Tryd.prog 22 #[.string a0, .string a1] w fun e w' => e = .returned (.string r) ∧ Below w.heap.size w w' := by
  have HG := Aside0.mk gw
  clear gw
  unfold sha_Block.f at h
  by_cases h0 : a0.size = 32
  · have t0 : ((a0.size : Int) != 32) = false := by simp [h0]
    by_cases h1 : a1.size = 64
    · have t1 : ((a1.size : Int) != 64) = false := by simp [h1]
      rw [if_pos ⟨h0, h1⟩] at h
      obtain rfl := Option.some.inj h
      have s0 : 32 ≤ a0.size := by omega
      have s1 : 64 ≤ a1.size := by omega
      have m0 : a0.size ≤ 9223372036854775807 := by omega
      have m1 : a1.size ≤ 9223372036854775807 := by omega
      clear h h0 h1
      go_enter Tryd.func22, Tryd.ntmps22
      go_wp2_with fail
      refine (sha_read a0 s0 m0 _).mono ?_
      rintro e w1 ⟨rfl, hb1⟩
      have HB1 := Aside0.mk (below_step (Below.refl w.heap.size w) hb1)
      clear hb1
      go_wp2_with fail
      refine (sha_behind _ (wordsTo_len _ _ _) a1 s1 m1 _ (HG.out.below HB1.out)).mono ?_
      rintro e w2 ⟨rfl, hb2⟩
      have HB2 := Aside0.mk (below_step HB1.out hb2)
      clear hb2
      go_wp2_with fail
      refine (sha_text _ (behindL_len _ _ (wordsTo_len _ _ _)) _).mono ?_
      rintro e w3 ⟨rfl, hb3⟩
      have HB3 := Aside0.mk (below_step HB2.out hb3)
      clear hb3
      go_wp2
      go_ret
      exact ⟨rfl, HB3.out⟩
    · have t1 : ((a1.size : Int) != 64) = true := by rw [bne_iff_ne]; omega
      rw [if_neg (fun hh => h1 hh.2)] at h
      obtain rfl := Option.some.inj h
      clear h h0 h1
      go_enter Tryd.func22, Tryd.ntmps22
      go_wp2
      go_ret
      exact ⟨rfl, Below.refl _ _⟩
  · have t0 : ((a0.size : Int) != 32) = true := by rw [bne_iff_ne]; omega
    rw [if_neg (fun hh => h0 hh.1)] at h
    obtain rfl := Option.some.inj h
    clear h h0
    go_enter Tryd.func22, Tryd.ntmps22
    go_wp2
    go_ret
    exact ⟨rfl, Below.refl _ _⟩
def sha_Start.f : Option ByteArray := some (strOfNums (textTo firstL 8))
theorem firstL_len : firstL.length = 8 := rfl

set_option maxHeartbeats 1000000 in
set_option maxRecDepth 100000 in
theorem sha_Start.calls (r : ByteArray) (w : World) {gw : GW w} (h : sha_Start.f = some r) :
    Calls Tryd.prog 25 #[] w fun e w' => e = .returned (.string r) ∧ Below w.heap.size w w' := by
  obtain rfl := Option.some.inj h
  clear h
  obtain ⟨⟨t, fr, h0⟩, _⟩ := gw
  have H0 := Aside0.mk h0
  clear h0
  go_enter Tryd.func25, Tryd.ntmps25
  go_wp2_with (first | (refine wpList_load_row rfl 58 (.global 0) rfl 0 rfl t (AK .u32 firstL) fr _ H0.out Tryd.underlying58 rfl (by kernel_rfl) ?_) | (go_at_call 57; refine (sha_text _ firstL_len _).mono ?_; rintro e w3 ⟨rfl, hb3⟩))
  go_ret
  exact ⟨rfl, hb3⟩

theorem exec_load_row {P : Program} {o : Oper} {ev : Operand → Value} {w : World} (ty : TypeId) (x : Operand) (ho : o.op = .load ty x)
    (g : Nat) (hx : ev x = .pointer (some ⟨g, 0, none⟩)) (t : TypeId) (cs : Array Value) (fr : Nat × Nat) (d : TypeDesc) (hg : w.heap[g]? = some (.cells cs t fr))
    (hu : P.underlying ty = some d) (hd : (match d with | .struct _ | .array _ _ => true | _ => false) = true) (hi : (P.info? ty).map (·.size) = some cs.size) :
    (execOp ev o).run P w = .ok (.value (.agg cs)) w := by
  unfold execOp
  simp only [ho, hx, Instr.loadAt, Instr.sureAddr, Sem.run_bind, Sem.run_pure, Result.andThen_ok, run_loadVar_row w g t ty cs fr d hg hu hd hi]
theorem exec_store_row {P : Program} {o : Oper} {ev : Operand → Value} {w : World} (ty : TypeId) (x y : Operand) (ho : o.op = .store ty x y)
    (g : Nat) (cells : Array Value) (hx : ev x = .pointer (some ⟨g, 0, none⟩)) (hy : ev y = .agg cells)
    (t : TypeId) (old : Array Value) (hg : w.heap[g]? = some (.cells old t (0, 0))) (hi : (P.info? ty).map (·.size) = some cells.size)
    (hold : old.size = cells.size) (h1 : cells.all (·.oneCell') = true) :
    (execOp ev o).run P w = .ok .skip (w.setRow g cells) := by
  unfold execOp
  simp only [ho, hx, hy, Instr.storeAt, Instr.sureAddr, Sem.run_bind, Sem.run_pure, Result.andThen_ok, run_storeVar_row w g t ty old cells hg hi hold h1]
/-- The state behind k blocks. -/
def stTo (t : ByteArray) : Nat → List Int
  | 0 => firstL
  | k + 1 => behindL (t.extract (64 * k) (64 * k + 64)) (stTo t k)
theorem stTo_len (t : ByteArray) (k : Nat) : (stTo t k).length = 8 := by
  induction k with
  | zero => rfl
  | succ k ih => exact behindL_len _ _ ih

theorem stTo_succ (t : ByteArray) (k : Nat) : stTo t (k + 1) = behindL (t.extract (64 * k) (64 * k + 64)) (stTo t k) := rfl
set_option maxHeartbeats 1000000 in
set_option maxRecDepth 100000 in
theorem sum_walk (s p : ByteArray) (k : Nat) (n : Nat) (hp : PAll.sha_Pad.f k s.size = some p) (hn : (s ++ p).size = 64 * n) (hs : (s ++ p).size ≤ 1000000000) (w : World) (gw : GW w) :
    Calls Tryd.prog 20 #[.string s] w fun e w' => e = .returned (.string (strOfNums (textTo (stTo (s ++ p) n) 8))) ∧ Below w.heap.size w w' := by
  have HG := Aside0.mk gw
  have HP := Aside0.mk hp
  have hz : (s ++ p).size = s.size + p.size := by simp
  have l1 : s.size ≤ 1000000000 := by omega
  have l2 : s.size + p.size ≤ 9223372036854775807 := by omega
  obtain ⟨⟨t, fr, h0⟩, _⟩ := gw
  have H0 := Aside0.mk h0
  have HN := Aside0.mk hn
  have HS := Aside0.mk hs
  have HZ := Aside0.mk hz
  clear h0 hp hn hs hz
  go_enter Tryd.func20, Tryd.ntmps20
  go_wp2_with fail
  refine (PAll.sha_Pad.calls k _ _ _ HP.out).mono ?_
  rintro e w1 ⟨rfl, hb1⟩
  have H0' : w1.heap[0]? = some (.cells (AK .u32 firstL) t fr) := (hb1.block 0 (by have := HG.out.lt; omega)).trans H0.out
  have H0 := Aside0.mk H0'
  have HB := Aside0.mk hb1
  clear H0' hb1
  obtain ⟨T, hT⟩ : ∃ T, T = s ++ p := ⟨_, rfl⟩
  go_wp2_with (first | (refine wpList_load_row rfl 58 (.global 0) rfl 0 rfl t (AK .u32 firstL) fr _ H0.out Tryd.underlying58 rfl (by kernel_rfl) ?_) | (refine wpList_store_row rfl 58 (.tmp 3) (.tmp 10) rfl _ (AK .u32 firstL) rfl rfl 58 _ (heap_at (by simp)) (by kernel_rfl) rfl (AK_one _ _) ?_) | fail)
  rw [← hT] at HN HS HZ ⊢
  have HB2 := Aside0.mk (below_setRow (below_step (Below.refl w.heap.size w) HB.out |>.alloc HB.out.size (.cells (AK .u32 (List.replicate 8 0)) 58)) HB.out.size (g := w1.heap.size) (AK .u32 firstL))
  have HX := Aside0.mk (setRow_heap (w1.alloc (.cells (AK .u32 (List.replicate 8 0)) 58)) w1.heap.size _ (AK .u32 firstL) 58 (0, 0) (heap_at rfl))
  have HL := Aside0.mk HB.out.size
  have HTT := Aside0.mk hT
  clear hT HB H0
  go_loopw [4] (fun v4 wr => ∃ k : Nat, k ≤ n ∧ v4 = .int .i64 ((64 * k : Nat) : Int) ∧ Aside0 (wr.heap[w1.heap.size]? = some (.cells (AK .u32 (stTo T k)) 58 (0, 0))) ∧ Aside0 (Below w.heap.size w wr)) (fun v4 _ => T.size - (intOf v4).toNat)
  case atStart => exact ⟨0, by omega, rfl, HX, HB2⟩
  case round =>
    clear HX HB2
    obtain ⟨k, hk, rfl, HX, HB⟩ := hrel
    by_cases hlt : k < n
    · have t1 : decide (((64 * k : Nat) : Int) < (T.size : Int)) = true := by rw [HN.out]; simp; omega
      have b1 : 64 * k + 64 ≤ T.size := by rw [HN.out]; omega
      have b2 : T.size ≤ 1000000000 := HS.out
      have w1' : wrap64 (64 * (k : Int) + 64) = 64 * (k : Int) + 64 := by unfold wrap64; omega
      have w2' : IntKind.i64.wrap (64 * (k : Int) + 64) = 64 * (k : Int) + 64 := IntWalk.i64_in _ (by omega)
      have hsl : ∀ W : World, (Instr.slice 9 (.string T) (some (.int .i64 (64 * (k : Int)))) (some (.int .i64 (64 * (k : Int) + 64))) none).run Tryd.prog W = .ok (.string (T.extract (64 * k) (64 * k + 64))) W := fun W => by
        rw [run_slice_string (P := Tryd.prog) (w := W) 9 T .i64 .i64 (64 * (k : Int)) (64 * (k : Int) + 64) Tryd.underlying9 (by omega) (by omega) (by omega), show (64 * (k : Int)).toNat = 64 * k from by omega, show (64 * (k : Int) + 64).toNat = 64 * k + 64 from by omega]
      go_wp2_with fail
      refine start_ (n := 8) (S := fun w' => w'.heap[w1.heap.size]? = some (.cells (AK .u32 (stTo T k)) 58 (0, 0))) (ds := [7]) #[false, false, false, false, false, false, false, false] (by kernel_rfl) rfl rfl HX.out (fun hHeld => ?_)
      refine with_tab (T := rtab .any (opsOf Tryd.f20 6)) (by kernel_rfl) (fun HT_ => ?_)
      refine take_ (i := 0) (N := (some 17)) (v := ?_) (a' := ?_) #[true, false, false, false, false, false, false, false] rfl rfl (take_of HT_.out (by kernel_rfl)) (fun _ _ _ h => h) (Or.inl ⟨by rfl, ?_⟩) hHeld ?_ ?_
      rotate_left
      · intro w' hs'
        (refine exec_load_row 58 (.tmp 3) ?h1 w1.heap.size ?h2 58 (AK .u32 (stTo T k)) (0, 0) _ hs' Tryd.underlying58 rfl ?h3; (case h1 => rfl); (case h2 => rfl); (case h3 => rw [AK_size, stTo_len]; kernel_rfl))
      rotate_left
      · simp only [Act.put, List.setIfInBounds_toArray, List.set_cons_zero, List.set_cons_succ, i64_w, i32_w]
        rfl
      refine pure_ (i := 1) (N := (some 18)) (v := ?_) (a' := ?_) #[true, true, false, false, false, false, false, false] rfl rfl (any_of HT_.out (by kernel_rfl)) (fun _ _ _ h => h) (Or.inl ⟨by rfl, ?_⟩) ?_ ?_
      rotate_left
      · intro w'
        go_simp
        with_reducible rfl
      rotate_left
      · simp only [Act.put, List.setIfInBounds_toArray, List.set_cons_zero, List.set_cons_succ, i64_w, i32_w]
        rfl
      refine pure_ (i := 2) (N := (some 19)) (v := ?_) (a' := ?_) #[true, true, true, false, false, false, false, false] rfl rfl (any_of HT_.out (by kernel_rfl)) (fun _ _ _ h => h) (Or.inl ⟨by rfl, ?_⟩) ?_ ?_
      rotate_left
      · intro w'
        go_simp
        with_reducible rfl
      rotate_left
      · simp only [Act.put, List.setIfInBounds_toArray, List.set_cons_zero, List.set_cons_succ, i64_w, i32_w]
        rfl
      refine pure_ (i := 3) (N := (some 20)) (v := ?_) (a' := ?_) #[true, true, true, true, false, false, false, false] rfl rfl (any_of HT_.out (by kernel_rfl)) (fun _ _ _ h => h) (Or.inl ⟨by rfl, ?_⟩) ?_ ?_
      rotate_left
      · intro w'
        go_simp
        with_reducible rfl
      rotate_left
      · simp only [Act.put, List.setIfInBounds_toArray, List.set_cons_zero, List.set_cons_succ, i64_w, i32_w]
        rfl
      refine pure_ (i := 4) (N := (some 21)) (v := ?_) (a' := ?_) #[true, true, true, true, true, false, false, false] rfl rfl (any_of HT_.out (by kernel_rfl)) (fun _ _ _ h => h) (Or.inl ⟨by rfl, ?_⟩) ?_ ?_
      rotate_left
      · intro w'
        go_simp
        with_reducible rfl
      rotate_left
      · simp only [Act.put, List.setIfInBounds_toArray, List.set_cons_zero, List.set_cons_succ, i64_w, i32_w]
        rfl
      refine pure_ (i := 5) (N := (some 22)) (v := ?_) (a' := ?_) #[true, true, true, true, true, true, false, false] rfl rfl (any_of HT_.out (by kernel_rfl)) (fun _ _ _ h => h) (Or.inl ⟨by rfl, ?_⟩) ?_ ?_
      rotate_left
      · intro w'
        go_simp
        with_reducible rfl
      rotate_left
      · simp only [Act.put, List.setIfInBounds_toArray, List.set_cons_zero, List.set_cons_succ, i64_w, i32_w]
        rfl
      refine one_ (i := 6) (N := (some 23)) #[true, true, true, true, true, true, true, false] rfl rfl (one_of HT_.out (by kernel_rfl)) (by decide) (fun K hK => ?_)
      refine goes_ Tryd.func56 (by kernel_rfl) rfl #[.agg (AK .u32 (stTo T k)), .string (T.extract (64 * k) (64 * k + 64))] (by rfl) rfl rfl (by (try simp only [List.map_toArray, List.map_cons, List.map_nil]); first | done | rfl) ?_
      have z1 : (T.extract (64 * k) (64 * k + 64)).size = 64 := by simp; omega
      have hbh := sha_behind _ (stTo_len T k) (T.extract (64 * k) (64 * k + 64)) (by omega) (by omega) _ (HG.out.below HB.out.drew)
      obtain ⟨Z, hZ⟩ : ∃ Z, Z = behindL (T.extract (64 * k) (64 * k + 64)) (stTo T k) := ⟨_, rfl⟩
      have hZl : Z.length = 8 := by rw [hZ]; exact behindL_len _ _ (stTo_len T k)
      rw [← hZ] at hbh
      have HZ1 := Aside0.mk hZ
      have HZ2 := Aside0.mk hZl
      clear hZ hZl z1
      refine hbh.mono ?_
      clear hbh
      rintro e w2 ⟨rfl, hb⟩
      refine ⟨_, rfl, ?_⟩
      have HX2 := (hb.block _ (Array.getElem?_eq_some_iff.1 HX.out).1).trans HX.out
      refine hK.out _ _ HX2 (fun hHeld => ?_)
      clear hK K
      refine norm_ (a' := ?_) ?_ ?_
      rotate_left
      · show Act.put _ (some 23) _ = _
        simp only [Act.put, List.setIfInBounds_toArray, List.set_cons_zero, List.set_cons_succ, i64_w, i32_w]
        rfl
      refine last_ (i := 7) (N := none) #[true, true, true, true, true, true, true, true] rfl rfl (one_of HT_.out (by kernel_rfl)) (by decide) (fun K hK => ?_)
      refine skip_ (w1 := ?_) (by rfl) rfl ?_ ?_
      rotate_left
      · (refine exec_store_row 58 (.tmp 3) (.tmp 23) ?h1 w1.heap.size (AK .u32 Z) ?h2 ?h3 58 _ HX2 ?h4 ?h5 (AK_one _ _); (case h1 => rfl); (case h2 => rfl); (case h3 => rfl); (case h4 => rw [AK_size, HZ2.out]; kernel_rfl); (case h5 => rw [AK_size, AK_size, HZ2.out, stTo_len]))
      refine hK.out _ _ ?_
      clear hK K
      refine done_ (done_of HT_.out (by kernel_rfl)) ?_
      have hb' := below_step HB.out.drew hb
      have HX3 := Aside0.mk HX2
      have HB' := Aside0.mk hb'
      clear hb hb' HX2 hsl w1' w2' hHeld
      try go_wp2
      go_roundw
      case rel =>
        refine ⟨k + 1, by omega, ?_, ⟨?_⟩, ⟨?_⟩⟩
        · exact congrArg (Value.int .i64) (by omega)
        · rw [stTo_succ, ← HZ1.out]
          exact setRow_heap _ _ _ _ _ _ HX3.out
        · exact below_setRow HB'.out HL.out _
      case measure => simp [intOf]; omega
    · have hkn : k = n := by omega
      rw [hkn] at HX
      have hge : T.size ≤ 64 * k := by rw [HN.out]; omega
      clear hkn
      go_wp2_with (first | (refine wpList_load_row rfl 58 (.tmp 3) rfl w1.heap.size rfl 58 (AK .u32 (stTo T n)) (0, 0) _ HX.out Tryd.underlying58 rfl (by rw [AK_size, stTo_len]; kernel_rfl) ?_) | (go_at_call 57; refine (sha_text _ (stTo_len T n) _).mono ?_; rintro e w3 ⟨rfl, hb3⟩))
      go_ret
      exact ⟨by rw [← HTT.out]; rfl, below_step HB.out hb3⟩
end Go.Proofs.YtkgijkfcmbpgpaaDoor.Giv
