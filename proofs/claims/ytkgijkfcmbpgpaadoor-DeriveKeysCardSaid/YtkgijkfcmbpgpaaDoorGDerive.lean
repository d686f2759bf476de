/- Package derive: the text out of a label, a name, and numbers. -/
import Derived.Test.YtkgijkfcmbpgpaaDoorGSha
import Derived.ArgAppend
import Derived.Lib.LazyBuf
namespace Go.Proofs.YtkgijkfcmbpgpaaDoor.Giv
open Go.RowKit Go.Proofs.YtkgijkfcmbpgpaaDoorW.PrintWords Go.Proofs.YtkgijkfcmbpgpaaDoorW.PrintLast Go.Proofs.YtkgijkfcmbpgpaaDoorW.PrintMore Go.Proofs.YtkgijkfcmbpgpaaDoor
set_option linter.unusedVariables false
set_option linter.unusedSimpArgs false

/-- A slice of bytes in a row of the call's own, whatever mark lies behind the row's end. -/
def HoldB (w : World) (base : Nat) (v : Value) (l : List Int) : Prop :=
  ∃ g cap, v = .slice (some ⟨g, 0, none⟩) l.length cap ∧ base ≤ g ∧ g < w.heap.size ∧ l.length ≤ cap ∧ cap ≤ 9223372036854775807 ∧
    (∀ j, (h : j < l.length) → w.cell? ⟨g, j, none⟩ = some (.int .u8 l[j])) ∧ ∀ j, j < cap → (w.cell? ⟨g, j, none⟩).isSome = true ∧ w.frozen? ⟨g, j, none⟩ = false
theorem HoldB.of_block {w w' : World} {base : Nat} {v : Value} {l : List Int} (h : HoldB w base v l) (hs : w.heap.size ≤ w'.heap.size) (hb : ∀ k, k < w.heap.size → w'.heap[k]? = w.heap[k]?) : HoldB w' base v l := by
  obtain ⟨g, cap, e, h1, h2, h3, h4, h5, h6⟩ := h
  exact ⟨g, cap, e, h1, by omega, h3, h4, fun j hj => (World.cell?_of_block (hb g h2)).trans (h5 j hj), fun j hj => by rw [World.cell?_of_block (hb g h2), World.frozen?_of_block (hb g h2)]; exact h6 j hj⟩
theorem HoldB.alloc {w : World} {base : Nat} {v : Value} {l : List Int} (h : HoldB w base v l) (o : Obj) : HoldB (w.alloc o) base v l :=
  h.of_block (by simp) fun k hk => Below.heap_alloc w o k hk
theorem HoldB.drewN {w : World} {base : Nat} {v : Value} {l : List Int} (h : HoldB w base v l) (m : Nat) : HoldB (w.drewN m) base v l :=
  h.of_block (by simp) fun k hk => by simp
theorem HoldB.of_owns {w : World} {base base' n : Nat} {v : Value} {l : List Int} (h : w.ownsRow base 5 1 v n (nums .u8 l)) (hb : base' ≤ base) (hn : 0 < n) : HoldB w base' v l := by
  have hl : l.length = n := by have := h.1; simpa [nums] using this
  rcases h.2 with ⟨_, h0⟩ | ⟨g, cap, cur, e, h1, h2, h3, h4, h5, h6⟩
  · omega
  · subst hl
    refine ⟨g, cap, e, by omega, (Array.getElem?_eq_some_iff.1 h2).1, h3, by unfold maxLen at h4; omega, fun j hj => ?_, fun j hj => ⟨?_, frozen_of_row w g j cur 5 h2⟩⟩
    · rw [cell_of_row w g j cur 5 (0, 0) h2]
      have e2 : (cur.toList.take (l.length * 1))[j]? = (nums .u8 l)[j]? := by rw [h6]
      rw [List.getElem?_take, if_pos (by omega)] at e2
      simpa [nums, hj] using e2
    · rw [cell_of_row w g j cur 5 (0, 0) h2]
      simp; omega
theorem HoldB.of_bytes (W : World) (s : ByteArray) (hs : s.size ≤ 9223372036854775807) : HoldB (Lib.bytesWorld W 5 s) W.heap.size (.slice (some ⟨W.heap.size, 0, none⟩) s.size (grownCap W s.size 0 5)) (bytesOf s) := by
  have hg := grownCap_ge W s.size 0 5
  have hm := grownCap_le_maxLen W s.size 0 5 (by unfold maxLen; omega)
  have hz : (Lib.bytesCells W 5 s).size = grownCap W s.size 0 5 := by
    simp [Lib.bytesCells, ← Lib.size_eq]; omega
  have hr := Lib.bytesWorld_at_new W 5 s
  refine ⟨W.heap.size, grownCap W s.size 0 5, by rw [bytesOf_length], Nat.le_refl _, by rw [Lib.bytesWorld_size]; omega, by rw [bytesOf_length]; exact hg, by unfold maxLen at hm; omega, fun j hj => ?_, fun j hj => ⟨?_, ?_⟩⟩
  · rw [bytesOf_length] at hj
    rw [Lib.bytesWorld_cell W 5 s j hj]
    have h' : j < s.data.toList.length := by rw [data_length]; exact hj
    simp [bytesOf, List.getD_eq_getElem?_getD, List.getElem?_eq_getElem h']
  · simp [World.cell?, hr, hz]; omega
  · simp [World.frozen?, hr, hz]; omega
theorem HoldB.string {w : World} {base : Nat} {v : Value} {l : List Int} (h : HoldB w base v l) : (convert 44 9 v).run Tryd.prog w = .ok (.string (strOfNums l)) w := by
  obtain ⟨g, cap, rfl, h1, h2, h3, h4, h5, h6⟩ := h
  refine run_convert_bytes_arg w 44 5 Tryd.underlying44 Tryd.underlying5 g 0 l.length cap l rfl (fun i hi => ?_) 9 Tryd.underlying9
  rw [Nat.zero_add, h5 i hi]
  simp [hi]

/-- append(v, x), the element lying in a box of its own. -/
theorem wpList_append_hold {w : World} {ops : Array Oper} {rest : List Oper} {o : Oper} {a : Act} {Q : Exit → Act → World → Prop} (hgd : o.guard = none) (s x : Operand)
    (ho : o.op = .call { callee := .builtin .append, args := #[s, x], argTypes := #[44, 44] }) (base : Nat) (v : Value) (l : List Int) (hs : a.eval s = v) (HO : HoldB w base v l) (ad : Addr) (y : Int)
    (hx : a.eval x = .slice (some ad) 1 1) (hy : w.cell? ad = some (.int .u8 y)) (hl : l.length < 1000000000) (w0 : World) (hB : Below base w0 w) (hb : base ≤ w.heap.size)
    (hK : ∀ v' w', HoldB w' base v' (l ++ [y]) → Below base w0 w' → base ≤ w'.heap.size → wpList Tryd.prog ops Q rest (a.put o.dst v') w') : wpList Tryd.prog ops Q (o :: rest) a w := by
  obtain ⟨i0, hi, hz0, hz1, hz2⟩ := info_parts info5
  obtain ⟨g, cap, rfl, h1, h2, h3, h4, h5, h6⟩ := HO
  refine wpList_append_arg w hgd s x 44 ho 5 i0 (.int .u8 0) 1 1 Tryd.underlying44 hi hz0 hz1 hz2 rfl (by decide) g 0 l.length cap (nums .u8 l) hs (by simp [nums]) (fun j u hj => ?_) ad 1 1 [.int .u8 y] hx rfl
    (fun j u hj => ?_) (by simp [Value.oneCell']) (fun hr j hj => ?_) (by unfold maxLen; omega) (by omega) (fun hr => ?_) (fun hr v' w' hown hg => ?_)
  · rw [Nat.zero_add]
    have hj' : j < l.length := by
      have := (List.getElem?_eq_some_iff.1 hj).1
      simpa [nums] using this
    rw [h5 j hj']
    simpa [nums, hj'] using hj
  · match j with
    | 0 =>
      have e : ad.add 0 = ad := by unfold Addr.add; simp
      rw [e, hy]
      simpa using hj
    | j + 1 => simp at hj
  · simp at hj
    subst hj
    simpa using h6 (l.length) (by omega)
  · refine hK _ _ ⟨g, cap, by simp, h1, ?_, by simpa using hr, h4, fun j hj => ?_, fun j hj => ?_⟩ (below_setCells h1 _ _ _ hB) ?_
    · simpa [World.setCells] using h2
    · by_cases hjl : j < l.length
      · rw [World.cell?_setCells_out _ _ _ _ _ (fun _ _ => Or.inl (by simp; omega)), h5 j hjl]
        simp [hjl]
      · simp at hj
        obtain rfl : j = l.length := by omega
        have := World.cell?_setCells_in g [Value.int .u8 y] (0 + l.length * 1) w (fun i hi => by simp at hi; subst hi; simpa using (h6 l.length (by omega)).1) 0 (by simp)
        simpa using this
    · rw [World.frozen?_setCells]
      refine ⟨?_, (h6 j hj).2⟩
      by_cases hjl : j = l.length
      · subst hjl
        have := World.cell?_setCells_in g [Value.int .u8 y] (0 + l.length * 1) w (fun i hi => by simp at hi; subst hi; simpa using (h6 l.length (by omega)).1) 0 (by simp)
        simp at this
        simp [this]
      · rw [World.cell?_setCells_out _ _ _ _ _ (fun _ _ => by simp; omega)]
        exact (h6 j hj).1
    · simpa [World.setCells] using hb
  · have hnew := HoldB.of_owns (base' := base) (by simpa [nums] using hown : w'.ownsRow w.heap.size 5 1 v' (l.length + 1) (nums .u8 (l ++ [y]))) hb (by omega)
    exact hK _ _ hnew (hB.grown hg hb (fun _ h => by cases h)) (Nat.le_trans hb hg.size)
/-- The first k of a number's eight bytes, the greatest first. -/
def byteAt (n : Int) (j : Nat) : Int := n / 2 ^ (56 - 8 * j) % 256
def num8 (n : Int) (k : Nat) : List Int := (List.range k).map fun (j : Nat) => byteAt n j
theorem num8_succ (n : Int) (k : Nat) : num8 n (k + 1) = num8 n k ++ [byteAt n k] := by simp [num8, List.range_succ]
def numsL (l : List Int) (k : Nat) : List Int := (l.take k).flatMap fun n => num8 n 8
theorem num8_len (n : Int) (k : Nat) : (num8 n k).length = k := by simp [num8]
theorem numsL_len (l : List Int) (k : Nat) (h : k ≤ l.length) : (numsL l k).length = 8 * k := by
  induction k with
  | zero => simp [numsL]
  | succ k ih =>
    have := ih (by omega)
    unfold numsL at this ⊢
    rw [List.take_succ_eq_append_getElem (by omega), List.flatMap_append]
    simp [this, num8_len]; omega
theorem numsL_succ (l : List Int) (k : Nat) (h : k < l.length) : numsL l (k + 1) = numsL l k ++ num8 (l.getD k 0) 8 := by
  unfold numsL
  rw [List.take_succ_eq_append_getElem h, List.flatMap_append]
  simp [h]
def headL (a0 : ByteArray) : List Int := bytesOf a0 ++ [0]
def derive_text.f (a0 a1 : ByteArray) (l2 : List Int) : Option ByteArray :=
  if a0.size ≤ 100000000 ∧ a1.size ≤ 140737488355328 ∧ l2.length ≤ 1000 then some (strOfNums (headL a0 ++ numsL l2 l2.length) ++ a1) else none

set_option maxHeartbeats 2000000 in
set_option maxRecDepth 100000 in
theorem derive_text.calls (a0 : ByteArray) (a1 : ByteArray) (A2 : Option Addr) (c2 : Nat) (l2 : List Int) (r : ByteArray) (w : World) (hr2 : Kd.C (Kd.int .i64) w A2 l2.length l2) (hc2 : l2.length ≤ c2) (h : derive_text.f a0 a1 l2 = some r) :
    Calls Tryd.prog 71 #[.string a0, .string a1, .slice A2 l2.length c2] w fun e w' => e = .returned (.string r) ∧ Below w.heap.size w w' := by
  unfold derive_text.f at h
  by_cases hc : a0.size ≤ 100000000 ∧ a1.size ≤ 140737488355328 ∧ l2.length ≤ 1000
  · rw [if_pos hc] at h
    obtain rfl := Option.some.inj h
    clear h
    obtain ⟨h0, h1, h2⟩ := hc
    have HC := Aside0.mk hr2
    clear hr2
    have kb := print_bytes (P := Tryd.prog) 9 44 5 Tryd.underlying9 Tryd.underlying44 Tryd.underlying5 a0 w
    have HO0 := Aside0.mk (HoldB.of_bytes w a0 (by omega))
    have HB0 := Aside0.mk (bytes_below (Below.refl w.heap.size w) (Nat.le_refl _) 5 a0)
    have hh0 := bytesOf_length a0
    go_enter Tryd.func71, Tryd.ntmps71
    go_wp2_with (at_builtin; refine wpList_append_hold rfl (.tmp 12) (.tmp 13) rfl w.heap.size _ (bytesOf a0) rfl (HO0.out.alloc _) ⟨(Lib.bytesWorld w 5 a0).heap.size, 0, none⟩ 0 rfl (by go_simp) (by omega) w (HB0.out.alloc HB0.out.size _) (by have := HB0.out.size; simp; omega) ?_; intro v1 w1 ho1 hb1 hs1; have HO1 := Aside0.mk ho1; have HB1 := Aside0.mk hb1; clear ho1 hb1)
    clear kb HO0 HB0
    have HR := Aside0.mk (Kd.reads_of_C (enc := Value.int .i64) (d := (0 : Int)) HC.out)
    clear HC
    go_loopw [7, 17] (fun v7 v17 wr => ∃ k : Nat, k ≤ l2.length ∧ v17 = .int .i64 k ∧ Aside0 (HoldB wr w.heap.size v7 (headL a0 ++ numsL l2 k)) ∧ Aside0 (Below w.heap.size w wr) ∧ w.heap.size ≤ wr.heap.size) (fun _ v17 _ => l2.length - (intOf v17).toNat)
    case atStart => exact ⟨0, by omega, rfl, ⟨by simpa [headL, numsL] using HO1.out⟩, HB1, hs1⟩
    case round =>
      clear HO1 HB1 hs1
      obtain ⟨k, hk, rfl, HO, HB, hs⟩ := hrel
      by_cases hlt : k < l2.length
      · have t0 : decide ((k : Int) < (l2.length : Int)) = true := decide_eq_true (by omega)
        obtain ⟨ad, hA, hcell⟩ := (HR.out.below HB.out).at_ (k : Int) (by omega) (by omega)
        subst hA
        rw [Int.toNat_natCast] at hcell
        have HRk := Aside0.mk (show rdOf 0 l2 (k : Int) = l2.getD k 0 by simp [rdOf])
        go_wp2_with fail
        clear hcell t0
        go_loopw [7, 10] (fun v7 v10 wq => ∃ j : Nat, j ≤ 8 ∧ v10 = .int .i64 (56 - 8 * (j : Int)) ∧ Aside0 (HoldB wq w.heap.size v7 (headL a0 ++ numsL l2 k ++ num8 (rdOf 0 l2 (k : Int)) j)) ∧ Aside0 (Below w.heap.size w wq) ∧ w.heap.size ≤ wq.heap.size) (fun _ v10 _ => (intOf v10 + 8).toNat)
        case atStart => exact ⟨0, by omega, rfl, ⟨by simpa [num8] using HO.out⟩, HB, hs⟩
        case round =>
          clear HO HB hs
          obtain ⟨j, hj, rfl, HO, HB, hs⟩ := hrel
          by_cases hlt2 : j < 8
          · have t0 : decide ((0 : Int) ≤ 56 - 8 * (j : Int)) = true := decide_eq_true (by omega)
            have hlen : (headL a0 ++ numsL l2 k ++ num8 (rdOf 0 l2 (k : Int)) j).length < 1000000000 := by
              have hn := numsL_len l2 k hk
              have hn2 := num8_len (rdOf 0 l2 (k : Int)) j
              simp only [headL, List.length_append, List.length_singleton]
              omega
            go_wp2_with (at_builtin; refine wpList_append_hold rfl (.tmp 25) (.tmp 30) rfl w.heap.size _ (headL a0 ++ numsL l2 k ++ num8 (rdOf 0 l2 (k : Int)) j) rfl (HO.out.alloc _) ⟨wr.heap.size, 0, none⟩ (byteAt (rdOf 0 l2 (k : Int)) j) rfl (by go_simp; rfl) hlen w (HB.out.alloc HB.out.size _) (by simp; omega) ?_; intro v1 w1 ho1 hb1 hs1; have HO1 := Aside0.mk ho1; have HB1 := Aside0.mk hb1; clear ho1 hb1)
            go_roundw
            case rel => exact ⟨j + 1, by omega, by go_num, ⟨by rw [num8_succ, ← List.append_assoc]; exact HO1.out⟩, HB1, hs1⟩
            case measure => simp [intOf]; omega
          · obtain rfl : j = 8 := by omega
            go_wp2
            go_roundw
            case rel => exact ⟨k + 1, by omega, by go_num, ⟨by rw [numsL_succ l2 k hlt, ← HRk.out, ← List.append_assoc]; exact HO.out⟩, HB, hs⟩
            case measure => simp [intOf]; omega
      · obtain rfl : k = l2.length := by omega
        have t0 : decide ((l2.length : Int) < (l2.length : Int)) = false := decide_eq_false (by omega)
        have hcv := HO.out.string
        have hn := numsL_len l2 l2.length (by omega)
        have hcat : (strOfNums (headL a0 ++ numsL l2 l2.length)).size + a1.size ≤ 9223372036854775807 := by
          rw [show ∀ l : List Int, (strOfNums l).size = l.length from fun l => by simp [strOfNums, ByteArray.size], List.length_append, hn]
          simp only [headL, List.length_append, List.length_singleton]
          omega
        go_wp2
        go_ret
        exact ⟨rfl, HB.out⟩
  · rw [if_neg hc] at h
    cases h
end Go.Proofs.YtkgijkfcmbpgpaaDoor.Giv
