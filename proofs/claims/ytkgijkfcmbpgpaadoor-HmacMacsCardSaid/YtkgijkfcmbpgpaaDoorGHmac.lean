/- Package hmac: the key, the changed text, the sum under a key. -/
import Derived.Test.YtkgijkfcmbpgpaaDoorGSha
import Derived.Lib.BufferWrite
import Derived.Laws.CopyOwn
namespace Go.Proofs.YtkgijkfcmbpgpaaDoor.Giv
open Go.RowKit Go.Proofs.YtkgijkfcmbpgpaaDoorW.PrintWords Go.Proofs.YtkgijkfcmbpgpaaDoorW.PrintLast Go.Proofs.YtkgijkfcmbpgpaaDoorW.PrintMore Go.Proofs.YtkgijkfcmbpgpaaDoor
set_option linter.unusedVariables false
set_option linter.unusedSimpArgs false

/-- A text's first 64 bytes, zeros behind its end. -/
def fillL (s : ByteArray) : List Int := (List.range 64).map fun (i : Nat) => bt s (i : Int)
theorem fillL_len (s : ByteArray) : (fillL s).length = 64 := by simp [fillL]
theorem bt_data (s : ByteArray) (i : Nat) (h : i < s.size) : bt s (i : Int) = ((s.data[i]'h).toNat : Int) := by
  unfold bt
  rw [dif_pos (by simpa using h)]
  simp only [Int.toNat_natCast]
  rfl
theorem bt_out (s : ByteArray) (i : Nat) (h : s.size ≤ i) : bt s (i : Int) = 0 := by
  unfold bt
  rw [dif_neg (by simp; omega)]
theorem fill_cells (s : ByteArray) (h : s.size ≤ 64) : ((List.replicate 64 (Value.int .u8 0)).take 0 ++ Lib.byteCells s.data.toList ++ (List.replicate 64 (Value.int .u8 0)).drop (0 + s.size)).toArray = AK .u8 (fillL s) := by
  unfold AK
  congr 1
  have hs : s.data.toList.length = s.size := by simp
  apply List.ext_getElem
  · simp [Lib.byteCells, fillL]; omega
  · intro i h1 h2
    have hi : i < 64 := by simpa [fillL] using h2
    have er : (List.map (Value.int IntKind.u8) (fillL s))[i] = Value.int .u8 (bt s (i : Int)) := by simp [fillL]
    refine Eq.trans ?_ er.symm
    by_cases hl : i < s.size
    · rw [List.getElem_append_left (by simp [Lib.byteCells]; omega)]
      simp [Lib.byteCells, bt_data s i hl]
    · rw [List.getElem_append_right (by simp [Lib.byteCells]; omega), bt_out s i (by omega)]
      rw [List.getElem_drop, List.getElem_replicate]

theorem wpList_copy_text {P : Program} {w : World} {ops : Array Oper} {rest : List Oper} {o : Oper} {a : Act} {Q : Exit → Act → World → Prop} (hgd : o.guard = none) (d s : Operand) (dT sT : TypeId)
    (ho : o.op = .call { callee := .builtin .copy, args := #[d, s], argTypes := #[dT, sT] }) (elem : TypeId) (hu : P.underlying dT = some (.slice elem)) (hsz : (P.info? elem).map (·.size) = some 1)
    (g off dLen dCap : Nat) (hd : a.eval d = .slice (some ⟨g, off, none⟩) dLen dCap) (x : ByteArray) (hs : a.eval s = .string x)
    (cur : Array Value) (t : TypeId) (hg : w.heap[g]? = some (.cells cur t (0, 0))) (hle : x.size ≤ dLen) (hfit : off + x.size ≤ cur.size)
    (h : wpList P ops Q rest (a.put o.dst (goInt x.size)) (w.setRow g (cur.toList.take off ++ Lib.byteCells x.data.toList ++ cur.toList.drop (off + x.size)).toArray)) : wpList P ops Q (o :: rest) a w := by
  refine wpList_plain hgd fun K hK => ?_
  have hrun := Lib.run_copy_row_string (P := P) w dT sT o.type elem g off dLen dCap x cur t hu hsz hg hle hfit
  unfold Oper.wp
  simp [execOp, ho, resolve, invoke, builtin, hd, hs, hrun, Result.andThen]
  exact hK _ _ (by rw [List.append_assoc] at h; exact h)
/-- A row that is known whole is owned. -/
theorem owns_AK {w : World} {base g n : Nat} {l : List Int} (h : w.heap[g]? = some (.cells (AK .u8 l) 5 (0, 0))) (hb : base ≤ g) (hn : l.length = n) (hm : n ≤ 9223372036854775807) :
    w.ownsRow base 5 1 (.slice (some ⟨g, 0, none⟩) n n) n (nums .u8 l) := by
  refine ⟨by simp [nums, hn], .inr ⟨g, n, AK .u8 l, rfl, hb, h, Nat.le_refl _, by unfold maxLen; omega, by simp [AK_size, hn], ?_⟩⟩
  simp only [AK, nums]
  exact List.take_of_length_le (by simp [hn])

/-- Zeros, spelled so that the walk leaves them standing. -/
def zerosL (n : Nat) : List Int := List.replicate n 0
theorem zerosL_len (n : Nat) : (zerosL n).length = n := by simp [zerosL]
theorem zerosL_cells (n : Nat) : (AK .u8 (zerosL n)).toList = List.replicate n (Value.int .u8 0) := by simp [AK, zerosL]
theorem make8 (W : World) (n : Nat) (h : n ≤ 281474976710656) : (Instr.makeSlice 44 (.int .i64 (n : Int)) (.int .i64 (n : Int))).run Tryd.prog W = .ok (.slice (some ⟨W.heap.size, 0, none⟩) n n) (W.alloc (.cells (AK .u8 (zerosL n)) 5)) := by
  obtain ⟨i0, hi, hz0, hz1, hz2⟩ := info_parts info5
  have e := run_make (P := Tryd.prog) W 44 5 i0 (.int .u8 0) Tryd.underlying44 hi hz0 .i64 .i64 (n : Int) (n : Int) (by omega) (by omega) (by rw [hz2]; omega) (by omega)
  rw [e]
  have e2 : madeCells (Value.int IntKind.u8 0).cells (((n : Int)).toNat * i0.size) = AK .u8 (zerosL n) := by
    rw [hz1]
    apply Array.ext
    · rw [size_madeCells, AK_size]; simp [zerosL]
    · intro i h1 h2
      simp [madeCells, AK, Value.cells, Nat.mod_one, zerosL]
  rw [e2]
  simp

/-- The key as 64 bytes. -/
def keyB (s : ByteArray) : ByteArray := strOfNums (fillL s)
def hmac_Key.f (a0 : ByteArray) : Option ByteArray := if a0.size ≤ 64 then some (keyB a0) else (sha_Sum.f a0).bind fun s => some (keyB s)

theorem sum_size32 {a0 s : ByteArray} (h : sha_Sum.f a0 = some s) : s.size = 32 := by
  unfold sha_Sum.f at h
  by_cases h0 : a0.size ≤ 100000000
  · rw [if_pos h0] at h
    obtain rfl := Option.some.inj h
    unfold sumB
    rw [show ∀ l : List Int, (strOfNums l).size = l.length from fun l => by simp [strOfNums, ByteArray.size], textTo_len _ _ (by rw [stTo_len]; omega)]
  · rw [if_neg h0] at h
    cases h
/-- The world behind the copying, and its text. -/
def keyW (W : World) (s : ByteArray) : World := (W.alloc (.cells (AK .u8 (zerosL 64)) 5)).setRow W.heap.size (AK .u8 (fillL s))
theorem keyW_string (W : World) (s : ByteArray) : (convert 44 9 (.slice (some ⟨W.heap.size, 0, none⟩) 64 64)).run Tryd.prog (keyW W s) = .ok (.string (keyB s)) (keyW W s) :=
  own_string (P := Tryd.prog) Tryd.underlying44 Tryd.underlying5 Tryd.underlying9 (owns_AK (base := W.heap.size) (setRow_heap _ _ _ _ _ _ (heap_alloc_new W (.cells (AK .u8 (zerosL 64)) 5))) (Nat.le_refl _) (fillL_len s) (by omega))
theorem keyW_below {w W : World} (h : Below w.heap.size w W) (s : ByteArray) : Below w.heap.size w (keyW W s) := below_setRow (h.alloc h.size _) h.size _

set_option maxHeartbeats 1000000 in
set_option maxRecDepth 100000 in
theorem hmac_Key.calls (a0 : ByteArray) (r : ByteArray) (w : World) {gw : GW w} (h : hmac_Key.f a0 = some r) :
    Calls Tryd.prog 37 #[.string a0] w fun e w' => e = .returned (.string r) ∧ Below w.heap.size w w' := by
  have HG := Aside0.mk gw
  clear gw
  unfold hmac_Key.f at h
  by_cases h0 : a0.size ≤ 64
  · have t0 : decide ((64 : Int) < (a0.size : Int)) = false := decide_eq_false (by omega)
    rw [if_pos h0] at h
    obtain rfl := Option.some.inj h
    clear h
    have hmk : (Instr.makeSlice 44 (.int .i64 64) (.int .i64 64)).run Tryd.prog w = _ := make8 w 64 (by omega)
    have HB1 := Aside0.mk (heap_alloc_new w (.cells (AK .u8 (zerosL 64)) 5))
    have HC := Aside0.mk (fill_cells a0 h0)
    have hcv := keyW_string w a0
    go_enter Tryd.func37, Tryd.ntmps37
    go_wp2_with (refine wpList_copy_text rfl (.tmp 10) (.tmp 11) 44 9 rfl 5 Tryd.underlying44 (by kernel_rfl) w.heap.size 0 64 64 rfl a0 rfl (AK .u8 (zerosL 64)) 5 HB1.out (by omega) (by rw [AK_size, zerosL_len]; omega) ?_; rw [zerosL_cells, HC.out]; refine show wpList _ _ _ _ _ (keyW w a0) from ?_)
    go_ret
    exact ⟨rfl, keyW_below (Below.refl _ _) _⟩
  · have t0 : decide ((64 : Int) < (a0.size : Int)) = true := decide_eq_true (by omega)
    rw [if_neg h0] at h
    obtain ⟨s, hs, h⟩ := Option.bind_eq_some_iff.mp h
    obtain rfl := Option.some.inj h
    clear h
    have hs32 := sum_size32 hs
    go_enter Tryd.func37, Tryd.ntmps37
    go_wp2_with fail
    refine (sha_Sum.calls (gw := HG.out) _ _ _ hs).mono ?_
    rintro e w1 ⟨rfl, hb1⟩
    have HB0 := Aside0.mk hb1
    clear hb1
    have hmk : (Instr.makeSlice 44 (.int .i64 64) (.int .i64 64)).run Tryd.prog w1 = _ := make8 w1 64 (by omega)
    have HB1 := Aside0.mk (heap_alloc_new w1 (.cells (AK .u8 (zerosL 64)) 5))
    have HC := Aside0.mk (fill_cells s (by omega))
    have hcv := keyW_string w1 s
    go_wp2_with (refine wpList_copy_text rfl (.tmp 10) (.tmp 11) 44 9 rfl 5 Tryd.underlying44 (by kernel_rfl) w1.heap.size 0 64 64 rfl s rfl (AK .u8 (zerosL 64)) 5 HB1.out (by omega) (by rw [AK_size, zerosL_len]; omega) ?_; rw [zerosL_cells, HC.out]; refine show wpList _ _ _ _ _ (keyW w1 s) from ?_)
    go_ret
    exact ⟨rfl, keyW_below HB0.out _⟩
/-- A text whose bytes, up to place k, are turned. -/
def xorTo (s : ByteArray) (c : Int) (k : Nat) : List Int := (List.range s.size).map fun (i : Nat) => if i < k then Go.bits .xor .u8 (bt s (i : Int)) c else 0
def xorB (s : ByteArray) (c : Int) : ByteArray := strOfNums (xorTo s c s.size)
theorem bt_elem (s : ByteArray) (k : Nat) (h : k < s.size) : bt s (k : Int) = ((s[k]'h).toNat : Int) := by
  rw [bt_data s k h]; rfl
theorem xorTo_len (s : ByteArray) (c : Int) (k : Nat) : (xorTo s c k).length = s.size := by simp [xorTo]
theorem xorTo_zero (s : ByteArray) (c : Int) : xorTo s c 0 = zerosL s.size := by
  apply List.ext_getElem <;> simp [xorTo, zerosL]
theorem xorTo_set (s : ByteArray) (c : Int) (k : Nat) : (xorTo s c k).set k (Go.bits .xor .u8 (bt s (k : Int)) c) = xorTo s c (k + 1) := by
  apply List.ext_getElem
  · simp [xorTo]
  · intro i h1 h2
    rw [List.getElem_set]
    simp only [xorTo, List.getElem_map, List.getElem_range]
    by_cases h : k = i
    · subst h; simp
    · rw [if_neg h]
      by_cases h3 : i < k
      · rw [if_pos h3, if_pos (by omega)]
      · rw [if_neg h3, if_neg (by omega)]

theorem turn67 (x : Int) (w : World) : Calls Tryd.prog 67 #[.int .u8 x] w fun e w' => e = .returned (.int .u8 (Go.bits .xor .u8 x 54)) ∧ w' = w := by
  go_enter Tryd.func67, Tryd.ntmps67
  go_wp2
  go_ret
  exact ⟨rfl, rfl⟩
set_option maxHeartbeats 1000000 in
set_option maxRecDepth 100000 in
theorem changed67 (s : ByteArray) (hs : s.size ≤ 100000000) (w : World) : Calls Tryd.prog 66 #[.string s, .func (.func 67) #[] #[]] w fun e w' => e = .returned (.string (xorB s 54)) ∧ Below w.heap.size w w' := by
  have hmk := make8 w s.size (by omega)
  have HZ := Aside0.mk ((heap_alloc_new w (.cells (AK .u8 (zerosL s.size)) 5)).trans (by rw [← xorTo_zero s 54]))
  go_enter Tryd.func66, Tryd.ntmps66
  go_wp2_with fail
  clear hmk
  go_loopw [12] (fun v12 wr => ∃ k : Nat, k ≤ s.size ∧ v12 = .int .i64 k ∧ Aside0 (wr.heap[w.heap.size]? = some (.cells (AK .u8 (xorTo s 54 k)) 5 (0, 0))) ∧ Below w.heap.size w wr) (fun v12 _ => s.size - (intOf v12).toNat)
  case atStart => exact ⟨0, by omega, rfl, HZ, (Below.refl _ _).alloc (Nat.le_refl _) _⟩
  case round =>
    clear HZ
    obtain ⟨k, hk, rfl, HR, hB⟩ := hrel
    by_cases hlt : k < s.size
    · have t0 : decide ((k : Int) < (s.size : Int)) = true := decide_eq_true (by omega)
      have hc := AK_cell HR.out k (by rw [xorTo_len]; omega)
      have hf := frozen_of_row wr w.heap.size k _ _ HR.out
      go_wp2_with fail
      refine (turn67 _ _).mono ?_
      rintro e w1 ⟨rfl, rfl⟩
      go_wp2
      go_roundw
      case rel =>
        refine ⟨k + 1, by omega, by go_num, ⟨?_⟩, ?_⟩
        · refine (AK_store HR.out k _).trans ?_
          rw [← xorTo_set, bt_elem s k hlt]
        · exact hB.setCell (Nat.le_refl _) _
      case measure => simp [intOf]; omega
    · obtain rfl : k = s.size := by omega
      have hcv := own_string (P := Tryd.prog) Tryd.underlying44 Tryd.underlying5 Tryd.underlying9 (owns_AK (base := w.heap.size) HR.out (Nat.le_refl _) (xorTo_len _ _ _) (by omega))
      have t0 : decide ((s.size : Int) < (s.size : Int)) = false := decide_eq_false (by omega)
      go_wp2
      go_ret
      exact ⟨rfl, hB⟩

theorem turn68 (x : Int) (w : World) : Calls Tryd.prog 68 #[.int .u8 x] w fun e w' => e = .returned (.int .u8 (Go.bits .xor .u8 x 92)) ∧ w' = w := by
  go_enter Tryd.func68, Tryd.ntmps68
  go_wp2
  go_ret
  exact ⟨rfl, rfl⟩
set_option maxHeartbeats 1000000 in
set_option maxRecDepth 100000 in
theorem changed68 (s : ByteArray) (hs : s.size ≤ 100000000) (w : World) : Calls Tryd.prog 66 #[.string s, .func (.func 68) #[] #[]] w fun e w' => e = .returned (.string (xorB s 92)) ∧ Below w.heap.size w w' := by
  have hmk := make8 w s.size (by omega)
  have HZ := Aside0.mk ((heap_alloc_new w (.cells (AK .u8 (zerosL s.size)) 5)).trans (by rw [← xorTo_zero s 92]))
  go_enter Tryd.func66, Tryd.ntmps66
  go_wp2_with fail
  clear hmk
  go_loopw [12] (fun v12 wr => ∃ k : Nat, k ≤ s.size ∧ v12 = .int .i64 k ∧ Aside0 (wr.heap[w.heap.size]? = some (.cells (AK .u8 (xorTo s 92 k)) 5 (0, 0))) ∧ Below w.heap.size w wr) (fun v12 _ => s.size - (intOf v12).toNat)
  case atStart => exact ⟨0, by omega, rfl, HZ, (Below.refl _ _).alloc (Nat.le_refl _) _⟩
  case round =>
    clear HZ
    obtain ⟨k, hk, rfl, HR, hB⟩ := hrel
    by_cases hlt : k < s.size
    · have t0 : decide ((k : Int) < (s.size : Int)) = true := decide_eq_true (by omega)
      have hc := AK_cell HR.out k (by rw [xorTo_len]; omega)
      have hf := frozen_of_row wr w.heap.size k _ _ HR.out
      go_wp2_with fail
      refine (turn68 _ _).mono ?_
      rintro e w1 ⟨rfl, rfl⟩
      go_wp2
      go_roundw
      case rel =>
        refine ⟨k + 1, by omega, by go_num, ⟨?_⟩, ?_⟩
        · refine (AK_store HR.out k _).trans ?_
          rw [← xorTo_set, bt_elem s k hlt]
        · exact hB.setCell (Nat.le_refl _) _
      case measure => simp [intOf]; omega
    · obtain rfl : k = s.size := by omega
      have hcv := own_string (P := Tryd.prog) Tryd.underlying44 Tryd.underlying5 Tryd.underlying9 (owns_AK (base := w.heap.size) HR.out (Nat.le_refl _) (xorTo_len _ _ _) (by omega))
      have t0 : decide ((s.size : Int) < (s.size : Int)) = false := decide_eq_false (by omega)
      go_wp2
      go_ret
      exact ⟨rfl, hB⟩

theorem fill_size (s : ByteArray) : (keyB s).size = 64 := by
  unfold keyB
  rw [show ∀ l : List Int, (strOfNums l).size = l.length from fun l => by simp [strOfNums, ByteArray.size], fillL_len]
theorem key_size {a k : ByteArray} (h : hmac_Key.f a = some k) : k.size = 64 := by
  unfold hmac_Key.f at h
  by_cases h0 : a.size ≤ 64
  · rw [if_pos h0] at h
    obtain rfl := Option.some.inj h
    exact fill_size a
  · rw [if_neg h0] at h
    obtain ⟨s, _, h⟩ := Option.bind_eq_some_iff.mp h
    obtain rfl := Option.some.inj h
    exact fill_size s
theorem xorB_size (s : ByteArray) (c : Int) : (xorB s c).size = s.size := by
  unfold xorB
  rw [show ∀ l : List Int, (strOfNums l).size = l.length from fun l => by simp [strOfNums, ByteArray.size], xorTo_len]
theorem sum_bound {a0 s : ByteArray} (h : sha_Sum.f a0 = some s) : a0.size ≤ 100000000 := by
  unfold sha_Sum.f at h
  by_cases h0 : a0.size ≤ 100000000
  · exact h0
  · rw [if_neg h0] at h; cases h
/-- A text's sum under a key. -/
def hmac_Mac.f (a0 a1 : ByteArray) : Option ByteArray := (hmac_Key.f a0).bind fun k => (sha_Sum.f (xorB k 54 ++ a1)).bind fun t => sha_Sum.f (xorB k 92 ++ t)

set_option maxHeartbeats 1000000 in
set_option maxRecDepth 100000 in
theorem hmac_Mac.calls (a0 a1 : ByteArray) (r : ByteArray) (w : World) {gw : GW w} (h : hmac_Mac.f a0 a1 = some r) :
    Calls Tryd.prog 31 #[.string a0, .string a1] w fun e w' => e = .returned (.string r) ∧ Below w.heap.size w w' := by
  have HG := Aside0.mk gw
  clear gw
  unfold hmac_Mac.f at h
  obtain ⟨k, hk, h⟩ := Option.bind_eq_some_iff.mp h
  obtain ⟨t, ht, hr⟩ := Option.bind_eq_some_iff.mp h
  clear h
  have k64 := key_size hk
  have t32 := sum_size32 ht
  have b1 := sum_bound ht
  have x1 := xorB_size k 54
  have x2 := xorB_size k 92
  have HK := Aside0.mk hk
  have HT := Aside0.mk ht
  have HR := Aside0.mk hr
  have hcat1 : (xorB k 54).size + a1.size ≤ 9223372036854775807 := by rw [ByteArray.size_append] at b1; omega
  have hcat2 : (xorB k 92).size + t.size ≤ 9223372036854775807 := by omega
  have HKS := Aside0.mk (show k.size ≤ 100000000 by omega)
  clear hk ht hr b1 x1 x2 t32 k64
  go_enter Tryd.func31, Tryd.ntmps31
  go_wp2_with fail
  refine (hmac_Key.calls (gw := HG.out) _ _ _ HK.out).mono ?_
  rintro e w1 ⟨rfl, hb1⟩
  have HB1 := Aside0.mk hb1
  clear hb1
  go_wp2_with fail
  refine (changed67 _ HKS.out _).mono ?_
  rintro e w2 ⟨rfl, hb2⟩
  have HB2 := Aside0.mk (below_step HB1.out hb2)
  clear hb2
  go_wp2_with fail
  refine (sha_Sum.calls (gw := HG.out.below HB2.out) _ _ _ HT.out).mono ?_
  rintro e w3 ⟨rfl, hb3⟩
  have HB3 := Aside0.mk (below_step HB2.out hb3)
  clear hb3
  go_wp2_with fail
  refine (changed68 _ HKS.out _).mono ?_
  rintro e w4 ⟨rfl, hb4⟩
  have HB4 := Aside0.mk (below_step HB3.out hb4)
  clear hb4
  go_wp2_with fail
  refine (sha_Sum.calls (gw := HG.out.below HB4.out) _ _ _ HR.out).mono ?_
  rintro e w5 ⟨rfl, hb5⟩
  have HB5 := Aside0.mk (below_step HB4.out hb5)
  clear hb5
  go_wp2_with fail
  go_ret
  exact ⟨rfl, HB5.out⟩
end Go.Proofs.YtkgijkfcmbpgpaaDoor.Giv
