/- Package ctr: the blocks of a stream, and the stream. -/
import Derived.Test.YtkgijkfcmbpgpaaGRange
import Derived.Test.YtkgijkfcmbpgpaaGAes5
namespace Go.Proofs.Ytkgijkfcmbpgpaa.Giv
open Go.RowKit Go.Shelf Go.Proofs.YtkgijkfcmbpgpaaW.PrintWords Go.Proofs.YtkgijkfcmbpgpaaW.PrintLast Go.Proofs.YtkgijkfcmbpgpaaW.PrintMore Go.Proofs.Ytkgijkfcmbpgpaa.PSub
set_option linter.unusedVariables false
set_option linter.unusedSimpArgs false
attribute [local go_sem] Oper.semAt_some
/-- A number as four bytes. -/
def numB (i : Nat) : ByteArray := strOfNums [(i : Int) / 16777216 % 256, (i : Int) / 65536 % 256, (i : Int) / 256 % 256, (i : Int) % 256]
theorem numB_size (i : Nat) : (numB i).size = 4 := by simp [numB, strOfNums, ByteArray.size]
/-- One block of a stream. -/
def ctrBlk (key nonce : ByteArray) (i : Nat) : ByteArray := encB key (nonce ++ numB i)
def ctrPre (key nonce : ByteArray) (n : Nat) : List ByteArray := (List.range n).map (ctrBlk key nonce)
theorem ctrPre_succ (key nonce : ByteArray) (n : Nat) : ctrPre key nonce (n + 1) = ctrPre key nonce n ++ [ctrBlk key nonce n] := by simp [ctrPre, List.range_succ]
/-- What a round keeps. -/
def KpB (b : Nat) (W W' : World) : Prop := ∀ (k : Nat) (c : Array Value) (T : TypeId) (fz : Nat × Nat), k ≠ b → T ≠ 5 → W.heap[k]? = some (.cells c T fz) → W'.heap[k]? = some (.cells c T fz)
theorem KpB.trans {b : Nat} {A B C : World} (h : KpB b A B) (k : KpB b B C) : KpB b A C := fun j c T fz h1 h2 h3 => k j c T fz h1 h2 (h j c T fz h1 h2 h3)
theorem KpB.of_below {b n : Nat} {A B : World} (h : Below A.heap.size A B) : KpB b A B := fun k c T fz _ _ hc => (h.block k (Array.getElem?_eq_some_iff.1 hc).1).trans hc
theorem kpb_loop (b : Nat) (W : World) (l : Nat) (o : Obj) (r : Loop) (h : W.heap[l]? = some (.loop r)) : KpB b W (W.putObj l o) := by
  intro k c T fz _ _ hc
  refine (World.putObj_heap_other (fun e => ?_)).trans hc
  subst e
  rw [h] at hc
  cases hc
/-- A box of a text. -/
def BoxS (W : World) (b : Nat) (s : ByteArray) : Prop := W.heap[b]? = some (.cells #[.string s] 9 (0, 0))
theorem BoxS.cell {W : World} {b : Nat} {s : ByteArray} (h : BoxS W b s) : W.cell? ⟨b, 0, none⟩ = some (.string s) := (cell_of_row W b 0 _ _ _ h).trans rfl
theorem BoxS.kept {W W' : World} {b b0 : Nat} {s : ByteArray} (h : BoxS W b s) (hb : b ≠ b0) (hk : KpB b0 W W') : BoxS W' b s := hk b _ _ _ hb (by decide) h
theorem BoxS.below {W W' : World} {b n : Nat} {s : ByteArray} (h : BoxS W b s) (hn : W.heap.size ≤ n) (hk : Below n W W') : BoxS W' b s := (hk.block b (Nat.lt_of_lt_of_le (Array.getElem?_eq_some_iff.1 h).1 hn)).trans h

theorem num_string (W : World) (a b c d : Int) : (convert 27 9 (.slice (some ⟨W.heap.size, 0, none⟩) 4 4)).run Try.prog (W.alloc (.cells #[.int .u8 a, .int .u8 b, .int .u8 c, .int .u8 d] 5)) = .ok (.string (strOfNums [a, b, c, d])) (W.alloc (.cells #[.int .u8 a, .int .u8 b, .int .u8 c, .int .u8 d] 5)) := by
  refine run_convert_bytes_arg _ 27 5 Try.underlying27 Try.underlying5 W.heap.size 0 4 4 [a, b, c, d] rfl (fun i hi => ?_) 9 Try.underlying9
  have hn : (W.alloc (.cells #[.int .u8 a, .int .u8 b, .int .u8 c, .int .u8 d] 5)).heap[W.heap.size]? = some (.cells #[.int .u8 a, .int .u8 b, .int .u8 c, .int .u8 d] 5) := heap_alloc_new _ _
  rw [cell_of_row _ _ _ _ _ _ hn]
  have hi4 : i < 4 := hi
  have h4 : i = 0 ∨ i = 1 ∨ i = 2 ∨ i = 3 := by omega
  rcases h4 with rfl | rfl | rfl | rfl <;> rfl
set_option maxHeartbeats 2000000 in
set_option maxRecDepth 100000 in
theorem ctr_endless (n : Nat) (hn : 1 ≤ n) (N : Nat) (hN : N ≤ 1000000) (key nonce : ByteArray) (hk : key.size = 16) (hnn : nonce.size = 12) (b bk bn : Nat) (h1 : bk ≠ b) (h2 : bn ≠ b) (w : World) (ck : BoxS w bk key) (cn : BoxS w bn nonce) :
    Endless Fence.wide n Try.prog 62 #[.pointer (some ⟨bk, 0, none⟩), .pointer (some ⟨bn, 0, none⟩)] (KpB b) (fun pre x => x = ctrBlk key nonce pre.length) N (fun pre => 0 < pre.length ∧ pre = ctrPre key nonce pre.length) w := by
  intro l J Jx W hW hJ hJx hlt hY h0
  have HK0 := Aside0.mk (ck.below (Nat.le_refl _) hW)
  have HN0 := Aside0.mk (cn.below (Nat.le_refl _) hW)
  have HJ := Aside0.mk hJ
  have HY := Aside0.mk hY
  have HL := Aside0.mk hlt
  clear hW ck cn hJ hJx hY hlt
  refine callsIn_of_wp Try.func62 rfl trivial ?_ rfl
  simp only [Try.ntmps62, List.size_toArray, List.length_cons, List.length_nil, Nat.reduceAdd, Nat.reduceSub, Array.replicate_succ, Array.replicate_zero, List.push_toArray, List.append_toArray, List.nil_append, List.cons_append]
  gi_wp2
  gi_loopw [4] (fun v4 wr => ∃ pre : List ByteArray, v4 = .int .u32 (pre.length : Int) ∧ Aside0 (pre = ctrPre key nonce pre.length) ∧ Aside0 (J pre wr) ∧ Aside0 (BoxS wr bk key) ∧ Aside0 (BoxS wr bn nonce)) (fun v4 _ => N - (intOf v4).toNat)
  case atStart => exact ⟨[], rfl, ⟨rfl⟩, ⟨h0⟩, HK0, HN0⟩
  case round =>
    clear HK0 HN0
    obtain ⟨pre, rfl, HP, HJ1, HK, HN⟩ := hrel
    have hb := HL.out pre wr HJ1.out
    have ck := HK.out.cell
    have cn := HN.out.cell
    obtain ⟨i, hi⟩ : ∃ i, i = pre.length := ⟨_, rfl⟩
    rw [← hi] at hb ⊢
    have HI := Aside0.mk hi
    clear hi
    gi_wp2
    have e4 : strOfNums [(i : Int) / 16777216, (i : Int) / 65536, (i : Int) / 256 % 256, (i : Int) % 256] = numB i := by
      unfold numB
      congr 1
      simp only [List.cons.injEq, and_true]
      omega
    have kb := num_string wr ((i : Int) / 16777216) ((i : Int) / 65536) ((i : Int) / 256 % 256) ((i : Int) % 256)
    rw [e4] at kb
    rw [kb]
    clear kb e4 ck cn
    obtain ⟨wa, hwa⟩ : ∃ wa, wa = wr.alloc (.cells #[.int .u8 ((i : Int) / 16777216), .int .u8 ((i : Int) / 65536), .int .u8 ((i : Int) / 256 % 256), .int .u8 ((i : Int) % 256)] 5) := ⟨_, rfl⟩
    rw [← hwa]
    have hba : Below wr.heap.size wr wa := by rw [hwa]; exact (Below.refl _ wr).alloc (Nat.le_refl _) _
    have ca := (HK.out.below (Nat.le_refl _) hba).cell
    have na := (HN.out.below (Nat.le_refl _) hba).cell
    have HBA := Aside0.mk hba
    clear hba hwa
    have hE : aes_Encrypt.f key (nonce ++ numB i) = some (ctrBlk key nonce i) := by
      unfold aes_Encrypt.f
      rw [if_pos ⟨hk, by rw [ByteArray.size_append, numB_size, hnn]⟩]
      rfl
    have hq : (numB i).size = 4 := numB_size i
    gi_wp2
    refine ⟨trivial, ?_⟩
    gi_at_call 25
    refine (callsIn_wide.2 (aes_Encrypt.calls key (nonce ++ numB i) _ wa hE)).mono ?_
    rintro e w2 ⟨rfl, hb2⟩
    have HB2 := Aside0.mk (HBA.out.trans (hb2.mono HBA.out.size))
    have j2 : J pre w2 := HJ.out _ _ _ HJ1.out ⟨HB2.out.os, HB2.out.tape, HB2.out.output, HB2.out.size, fun k hk _ => HB2.out.block k hk⟩
    obtain ⟨fn, tmps, assign, body, hy, hR⟩ := HY.out pre (ctrBlk key nonce i) w2 (by rw [HI.out]) j2
    have hx : ctrPre key nonce (i + 1) = pre ++ [ctrBlk key nonce i] := by rw [ctrPre_succ, HI.out, ← HP.out]
    have HX := Aside0.mk hx
    clear hb2 hx ca na hq hE j2
    gi_wp2
    refine hR.mono ?_
    rintro e w3 (⟨rfl, hJ3, hk3⟩ | ⟨rfl, hx3⟩)
    · gi_wp2
      go_roundw
      case rel =>
        refine ⟨pre ++ [ctrBlk key nonce i], ?_, ⟨?_⟩, ⟨hJ3⟩, ⟨(HK.out.below (Nat.le_refl _) HB2.out).kept h1 hk3⟩, ⟨(HN.out.below (Nat.le_refl _) HB2.out).kept h2 hk3⟩⟩
        · rw [List.length_append, ← HI.out]
          simp
        · rw [List.length_append, ← HI.out]
          exact HX.out.symm
      case measure => simp [intOf]; omega
    · gi_wp2
      refine bodyPost_ret (results_none rfl _ _ _) rfl ?_
      exact ⟨⟨_, rfl⟩, pre ++ [ctrBlk key nonce i], ⟨by simp, by rw [List.length_append, ← HI.out]; exact HX.out.symm⟩, hx3⟩
set_option maxRecDepth 100000 in
theorem ctr_blocks (key nonce : ByteArray) (w : World) : Calls Try.prog 50 #[.string key, .string nonce] w fun e w' =>
    e = .returned (.func (.func 62) #[] #[.pointer (some ⟨w.heap.size, 0, none⟩), .pointer (some ⟨w.heap.size + 1, 0, none⟩)]) ∧ w' = (w.alloc (.cells #[.string key] 9)).alloc (.cells #[.string nonce] 9) := by
  go_enter Try.func50, Try.ntmps50
  go_wp2
  go_ret
  exact ⟨rfl, rfl⟩
def catL (pre : List ByteArray) : List UInt8 := pre.flatMap fun x => x.data.toList
theorem catL_snoc (pre : List ByteArray) (x : ByteArray) : catL (pre ++ [x]) = catL pre ++ x.data.toList := by simp [catL]
theorem ctrBlk_size (key nonce : ByteArray) (i : Nat) (hn : nonce.size = 12) : (ctrBlk key nonce i).size = 16 := by
  unfold ctrBlk encB
  have h : ∀ l : List Int, (strOfNums l).size = l.length := fun l => by simp [strOfNums, ByteArray.size]
  rw [h, encS_len, bytesOf_length, ByteArray.size_append, numB_size, hn]
theorem catL_len (key nonce : ByteArray) (hn : nonce.size = 12) : ∀ n, (catL (ctrPre key nonce n)).length = 16 * n
  | 0 => rfl
  | n + 1 => by
    rw [ctrPre_succ, catL_snoc, List.length_append, catL_len key nonce hn n]
    have := ctrBlk_size key nonce n hn
    rw [data_length, this]
    omega
/-- A stream. -/
def streamB (key nonce : ByteArray) (n : Nat) : ByteArray := (⟨(catL (ctrPre key nonce ((n + 15) / 16))).toArray⟩ : ByteArray).extract 0 n
def ctr_Stream.f (a0 a1 : ByteArray) (a2 : Int) : Option ByteArray :=
  if a0.size = 16 ∧ a1.size = 12 ∧ 0 < a2 ∧ a2 ≤ 1048576 then some (streamB a0 a1 a2.toNat) else some ⟨#[]⟩
/-- What lies between two rounds. -/
def StrI (w : World) (key nonce : ByteArray) (n : Nat) (pre : List ByteArray) (W : World) : Prop :=
  pre = ctrPre key nonce pre.length ∧ Lib.IsBuilderF 68 5 (w.heap.size + 1) (w.heap.size + 1) (Lib.byteCells (catL pre)) W ∧ W.cell? ⟨w.heap.size, 0, none⟩ = some (.int .i64 n) ∧ Below w.heap.size w W
theorem heap_at' {W : World} {o : Obj} {n : Nat} (h : W.heap.size = n) : (W.alloc o).heap[n]? = some o := by subst h; exact heap_alloc_new W o
theorem heap_before' {W : World} {o x : Obj} {n : Nat} (h : W.heap[n]? = some x) : (W.alloc o).heap[n]? = some x := (Below.heap_alloc W o n (Array.getElem?_eq_some_iff.1 h).1).trans h
theorem builder_kept {T e : TypeId} {B b : Nat} {bs : List Value} {A C : World} {row : Option Nat} (h : Lib.IsBuilderF T e B b bs A) (hg : A.grownBy C row) (hr : ∀ r, row = some r → ∃ o : Obj, A.heap[r]? = some o ∧ o.isCells = false) : Lib.IsBuilderF T e B b bs C := by
  have kp : ∀ (k : Nat) (c : Array Value) (t : TypeId) (fz : Nat × Nat), A.heap[k]? = some (.cells c t fz) → C.heap[k]? = some (.cells c t fz) := fun k c t fz hc => by
    refine (hg.block k (Array.getElem?_eq_some_iff.1 hc).1 (fun e => ?_)).trans hc
    obtain ⟨o, ho, hf⟩ := hr k e.symm
    rw [hc] at ho
    cases ho
    cases hf
  have one : ∀ p, Lib.BuilderAtF T e B b p bs A → Lib.BuilderAtF T e B b p bs C := fun p h => by
    obtain ⟨hB, v, hb, ⟨hl, ho⟩, hne⟩ := h
    refine ⟨hB, v, kp _ _ _ _ hb, ⟨hl, ?_⟩, hne⟩
    rcases ho with h1 | ⟨g, cap, cur, fz, h1, h2, h3, h4⟩
    · exact .inl h1
    · exact .inr ⟨g, cap, cur, fz, h1, h2, kp _ _ _ _ h3, h4⟩
  rcases h with h | h
  · exact .inl (one _ h)
  · exact .inr (one _ h)
theorem strI_own (w : World) (key nonce : ByteArray) (n D : Nat) (hD : w.heap.size ≤ D) : OwnFrom D (StrI w key nonce n) := by
  rintro s A C row ⟨h1, h2, h3, h4⟩ hg hr
  exact ⟨h1, builder_kept h2 hg (fun r e => (hr r e).2), cell_kept h3 hg (fun r e => (hr r e).2), h4.grown hg h4.size (fun k e => Nat.le_trans hD (hr k e).1)⟩
set_option maxHeartbeats 4000000 in
set_option maxRecDepth 100000 in
theorem stream_walk (key nonce : ByteArray) (n : Nat) (hk : key.size = 16) (hnn : nonce.size = 12) (h0 : 0 < n) (h1 : n ≤ 1048576) (w : World) :
    Calls Try.prog 32 #[.string key, .string nonce, .int .i64 n] w fun e w' => e = .returned (.string (streamB key nonce n)) ∧ Below w.heap.size w w' := by
  have t0 : ((key.size : Int) != 16) = false := by simp [hk]
  have t1 : ((nonce.size : Int) != 12) = false := by simp [hnn]
  have t2 : decide ((n : Int) ≤ 0) = false := decide_eq_false (by omega)
  have t3 : decide ((n : Int) > 1048576) = false := decide_eq_false (by omega)
  have t4 : decide (1048576 < (n : Int)) = false := decide_eq_false (by omega)
  refine (callsIn_wide (n := 10)).1 ?_
  refine callsIn_of_wp_marks Try.func32 rfl trivial ?_ rfl
  simp only [Try.ntmps32, List.size_toArray, List.length_cons, List.length_nil, Nat.reduceAdd, Nat.reduceSub, Array.replicate_succ, Array.replicate_zero, List.push_toArray, List.append_toArray, List.nil_append, List.cons_append]
  gi_wp2
  refine ⟨trivial, ?_⟩
  gi_at_call 50
  refine (callsIn_wide.2 (ctr_blocks key nonce _)).mono ?_
  rintro e w1 ⟨rfl, rfl⟩
  gi_wp2
  obtain ⟨W0, hW0⟩ : ∃ W0, W0 = (((w.alloc (.cells #[.int .i64 n] 3)).alloc (.cells #[.pointer none, .slice none 0 0] 68)).alloc (.cells #[.string key] 9)).alloc (.cells #[.string nonce] 9) := ⟨_, rfl⟩
  rw [← hW0]
  have hsz : W0.heap.size = w.heap.size + 4 := by rw [hW0]; simp
  have bn0 : W0.heap[w.heap.size]? = some (.cells #[.int .i64 n] 3 (0, 0)) := by
    rw [hW0]; exact heap_before' (heap_before' (heap_before' (heap_alloc_new _ _)))
  have bb0 : W0.heap[w.heap.size + 1]? = some (.cells #[.pointer none, .slice none 0 0] 68 (0, 0)) := by
    rw [hW0]; exact heap_before' (heap_before' (heap_at' (by simp)))
  have bk0 : BoxS W0 (w.heap.size + 1 + 1) key := by
    rw [hW0]; exact heap_before' (heap_at' (by simp))
  have bo0 : BoxS W0 (w.heap.size + 1 + 1 + 1) nonce := by
    rw [hW0]; exact heap_at' (by simp)
  have hB0 : Below w.heap.size w W0 := by
    rw [hW0]
    exact ((((Below.refl _ w).alloc (Nat.le_refl _) _).alloc (by simp) _).alloc (by simp; omega) _).alloc (by simp; omega) _
  clear hW0
  refine wpIn_range_endless rfl (by omega) (gf := 62) (lb := #[.pointer (some ⟨w.heap.size + 1 + 1, 0, none⟩), .pointer (some ⟨w.heap.size + 1 + 1 + 1, 0, none⟩)]) rfl trivial (enters_of Try.func62 (by kernel_rfl) rfl)
    (N := 65536) (id := 0) (Kp := KpB (w.heap.size + 1)) (fun _ _ _ => KpB.trans) (kpb_loop _) (ctr_endless 9 (by omega) 65536 (by omega) key nonce hk hnn (w.heap.size + 1) _ _ (by omega) (by omega) W0 bk0 bo0)
    (fun pre W => StrI w key nonce n pre W ∧ 16 * pre.length < n) (fun pre W => StrI w key nonce n pre W ∧ n ≤ 16 * pre.length ∧ 16 * pre.length < n + 16)
    (OwnFrom.and (strI_own w key nonce n _ (by omega)) (ownFrom_pure _ _)) (OwnFrom.and (strI_own w key nonce n _ (by omega)) (ownFrom_pure _ _))
    (fun pre W h => by have := h.2; omega) ⟨⟨rfl, .inl ⟨Nat.le_refl _, _, bb0, ⟨rfl, .inl ⟨rfl, rfl⟩⟩, by intro h; cases h⟩, (cell_of_row W0 _ 0 _ _ _ bn0).trans rfl, hB0⟩, by simpa using h0⟩
    (fun x => { tmps := #[.string key, .string nonce, .int .i64 n, undef, undef, .pointer (some ⟨w.heap.size, 0, none⟩), .string ⟨#[]⟩, .pointer (some ⟨w.heap.size + 1, 0, none⟩), .string x, .string key, .int .i64 16, .bool false, .bool false, .string nonce, .int .i64 12, .bool false, .bool false, .bool false, .int .i64 n, .bool false, .bool false, .bool false, .int .i64 n, .bool false, .bool false, .string key, .string nonce, .func (.func 62) #[] #[.pointer (some ⟨w.heap.size + 1 + 1, 0, none⟩), .pointer (some ⟨w.heap.size + 1 + 1 + 1, 0, none⟩)], .string x, undef, undef, undef, undef, undef, undef, undef, undef], defers := [] }) ?assign ?body ?stop
  case assign =>
    intro l x W K hK
    gi_wp2
    exact hK
  case body =>
    rintro l pre x W hx ⟨⟨hp, hb, hc, hB⟩, hlt⟩
    have hx16 : x.size = 16 := by rw [hx]; exact ctrBlk_size key nonce pre.length hnn
    have hlen : (catL pre).length = 16 * pre.length := by
      have := catL_len key nonce hnn pre.length
      rwa [← hp] at this
    have hbl : (Lib.byteCells (catL pre)).length = 16 * pre.length := by simp [Lib.byteCells, hlen]
    have hap : Lib.byteCells (catL (pre ++ [x])) = Lib.byteCells (catL pre) ++ Lib.strCells x := by
      rw [catL_snoc]; simp [Lib.byteCells, Lib.strCells]
    have hS : w.heap.size + 1 < W.heap.size := by rcases hb with h | h <;> exact h.lt
    have HP := Aside0.mk hp
    have HX := Aside0.mk hx
    clear hp hx
    gi_wp2
    refine ⟨trivial, ?_⟩
    gi_at_call 51
    refine (CallsIn.inRound l (callsIn_wide.2 (b_write2 (w.heap.size + 1) (w.heap.size + 1) _ x W hb (by rw [hbl]; omega) (by omega)))).mono ?_
    rintro e w1 ⟨rfl, hb1, hB1, hk1, hs1⟩
    rw [← hap] at hb1
    have hc1 : w1.cell? ⟨w.heap.size, 0, none⟩ = some (.int .i64 n) := (World.cell?_of_block (hB1.block w.heap.size (by omega))).trans hc
    have hl1 : (Lib.byteCells (catL (pre ++ [x]))).length = 16 * (pre.length + 1) := by
      rw [hap, List.length_append, hbl, Lib.strCells_length]; omega
    have HB1 := Aside0.mk hb1
    have HK1 := Aside0.mk hk1
    have HBB := Aside0.mk (hB.trans (hB1.mono (by omega)))
    clear hB1 hk1 hb1 hap hbl hlen hb hB hc
    gi_wp2
    have hd : 1 ≤ 10 - 1 - 1 := by omega
    have hmx : Try.prog.follows .mixedOrders = true := by kernel_rfl
    have hfl : Fence.wide.fn 52 := trivial
    have hbd : Lib.IsBuilderF 68 5 (w.heap.size + 1) (w.heap.size + 1) (Lib.byteCells (catL (pre ++ [x]))) w1.drew := .inr HB1.out.drew
    have hc2 : w1.drew.cell? ⟨w.heap.size, 0, none⟩ = some (.int .i64 n) := hc1
    have hfl2 : (Fence.wide.inRound l).fn 52 := trivial
    by_cases hgo : n ≤ 16 * (pre.length + 1)
    · have tg : decide (((16 * (pre.length + 1) : Nat) : Int) ≥ (n : Int)) = true := decide_eq_true (by omega)
      gi_region_with_o (gi_at_call 52; refine (CallsIn.inRound l (callsIn_wide.2 (b_len (w.heap.size + 1) (w.heap.size + 1) (Lib.byteCells (catL (pre ++ [x]))) w1.drew hbd))).mono ?_; rintro e w' ⟨he, rfl⟩; rw [hl1] at he; subst he)
      all_goals gi_wp2
      all_goals exact ⟨rfl, HK1.out.1.trans (KeepsOthers.drew w1), ⟨by rw [List.length_append]; show _ = ctrPre key nonce (pre.length + 1); rw [ctrPre_succ, ← HP.out, ← HX.out], hbd, hc2, HBB.out.drew⟩, by rw [List.length_append]; exact hgo, by rw [List.length_append]; show 16 * (pre.length + 1) < n + 16; omega⟩
    · have tg : decide (((16 * (pre.length + 1) : Nat) : Int) ≥ (n : Int)) = false := decide_eq_false (by omega)
      gi_region_with_o (gi_at_call 52; refine (CallsIn.inRound l (callsIn_wide.2 (b_len (w.heap.size + 1) (w.heap.size + 1) (Lib.byteCells (catL (pre ++ [x]))) w1.drew hbd))).mono ?_; rintro e w' ⟨he, rfl⟩; rw [hl1] at he; subst he)
      all_goals gi_wp2
      all_goals exact ⟨HK1.out.1.trans (KeepsOthers.drew w1), fun k c T fz h1 h2 h3 => HK1.out.2 k c T fz h1 h2 h3, ⟨by rw [List.length_append]; show _ = ctrPre key nonce (pre.length + 1); rw [ctrPre_succ, ← HP.out, ← HX.out], hbd, hc2, HBB.out.drew⟩, by rw [List.length_append]; show 16 * (pre.length + 1) < n; omega⟩
  case stop =>
    rintro D pre W hD ⟨hpos, hsp⟩ ⟨⟨hp, hb, hc, hB⟩, h2, h3⟩ hK
    have hlen : (catL pre).length = 16 * pre.length := by
      have := catL_len key nonce hnn pre.length
      rwa [← hp] at this
    have hne : catL pre ≠ [] := fun e => by rw [e] at hlen; simp at hlen; omega
    have hzs : (⟨(catL pre).toArray⟩ : ByteArray).size = 16 * pre.length := by rw [← hlen]; simp [ByteArray.size]
    have hq : pre.length = (n + 15) / 16 := by omega
    have hr : (⟨(catL pre).toArray⟩ : ByteArray).extract 0 n = streamB key nonce n := by
      unfold streamB; rw [← hq, ← hp]
    have HR := Aside0.mk hr
    have HBB := Aside0.mk hB
    have HKD := Aside0.mk hK
    have hbd : Lib.IsBuilderF 68 5 (w.heap.size + 1) (w.heap.size + 1) (Lib.byteCells (catL pre)) W.drew := by
      rcases hb with h | h
      · exact .inl h.drew
      · exact .inr h.drew
    have hc2 : W.drew.cell? ⟨w.heap.size, 0, none⟩ = some (.int .i64 n) := hc
    have hS : w.heap.size + 1 < W.heap.size := by rcases hb with h | h <;> exact h.lt
    clear hr hB hK hp hsp hb hq
    have hmx : Try.prog.follows .mixedOrders = true := by kernel_rfl
    have hfl : Fence.wide.fn 53 := trivial
    gi_wp2
    have hst := fun W' (h : W' = W.drew) => (callsIn_wide (n := 9)).2 (b_string2 (w.heap.size + 1) (w.heap.size + 1) (catL pre) W' (h ▸ hbd) hne)
    have ha0 : (0 : Int) ≤ (n : Int) := by omega
    have ha1 : (n : Int) ≤ ((16 * pre.length : Nat) : Int) := by omega
    refine wpIn_region_any hmx ?_
    try (change wpAnyIn _ _ _ _ _ _ _ _ _ (World.drew _))
    refine wpAnyIn_ready (rs := [0, 1]) (by kernel_rfl) (by simp) ?_
    refine AllReadyIn.cons rfl (fun K hK => ?_) ?_
    · go_simp
      refine (hst _ rfl).mono ?_
      rintro e w2 ⟨rfl, hB2, hO2⟩
      have hc3 : w2.cell? ⟨w.heap.size, 0, none⟩ = some (.int .i64 n) := (World.cell?_of_block (hB2.block w.heap.size (by omega))).trans hc2
      refine hK _ _ ?_
      clear hK K
      refine wpAnyIn_ready (rs := [1]) (by kernel_rfl) (by simp) ?_
      refine AllReadyIn.cons rfl (fun K hK => ?_) AllReadyIn.nil
      go_simp
      refine hK _ _ ?_
      clear hK K
      refine wpAnyIn_ready (rs := [2]) (by kernel_rfl) (by simp) ?_
      refine AllReadyIn.cons rfl (fun K hK => ?_) AllReadyIn.nil
      go_simp
      rw [if_pos (by omega)]
      go_simp
      refine hK _ _ ?_
      clear hK K
      refine wpAnyIn_ready (rs := [3]) (by kernel_rfl) (by simp) ?_
      refine AllReadyIn.cons rfl (fun K hK => ?_) AllReadyIn.nil
      go_simp
      refine hK _ _ ?_
      clear hK K
      refine wpAnyIn_done (by kernel_rfl) ?_ _
      gi_wp2
      have hKD : w2.heap[D]? = some (.deferred (some [])) := hO2 D _ HKD.out (fun e => by have := Option.some.inj e; omega) (fun c fz e => by cases e)
      have hB3 : Below w.heap.size w w2 := HBB.out.drew.trans (hB2.mono (by omega))
      refine ⟨by simp, .inl ⟨_, _, rfl, run_takeDeferred hKD, ?_⟩⟩
      exact ⟨_, results_tmp rfl _ _ _, by rw [HR.out]; rfl, hB3.trans (belowK_b (w := w) (Nat.le_refl _) w2 D _ _ (by omega) hKD rfl rfl)⟩
    refine AllReadyIn.cons rfl (fun K hK => ?_) AllReadyIn.nil
    · go_simp
      refine hK _ _ ?_
      clear hK K
      refine wpAnyIn_ready (rs := [0]) (by kernel_rfl) (by simp) ?_
      refine AllReadyIn.cons rfl (fun K hK => ?_) AllReadyIn.nil
      go_simp
      refine (hst _ rfl).mono ?_
      rintro e w2 ⟨rfl, hB2, hO2⟩
      refine hK _ _ ?_
      clear hK K
      refine wpAnyIn_ready (rs := [2]) (by kernel_rfl) (by simp) ?_
      refine AllReadyIn.cons rfl (fun K hK => ?_) AllReadyIn.nil
      go_simp
      rw [if_pos (by omega)]
      go_simp
      refine hK _ _ ?_
      clear hK K
      refine wpAnyIn_ready (rs := [3]) (by kernel_rfl) (by simp) ?_
      refine AllReadyIn.cons rfl (fun K hK => ?_) AllReadyIn.nil
      go_simp
      refine hK _ _ ?_
      clear hK K
      refine wpAnyIn_done (by kernel_rfl) ?_ _
      gi_wp2
      have hKD : w2.heap[D]? = some (.deferred (some [])) := hO2 D _ HKD.out (fun e => by have := Option.some.inj e; omega) (fun c fz e => by cases e)
      have hB3 : Below w.heap.size w w2 := HBB.out.drew.trans (hB2.mono (by omega))
      refine ⟨by simp, .inl ⟨_, _, rfl, run_takeDeferred hKD, ?_⟩⟩
      exact ⟨_, results_tmp rfl _ _ _, by rw [HR.out]; rfl, hB3.trans (belowK_b (w := w) (Nat.le_refl _) w2 D _ _ (by omega) hKD rfl rfl)⟩
set_option maxHeartbeats 4000000 in
set_option maxRecDepth 100000 in
theorem stream_out (a0 a1 : ByteArray) (a2 : Int) (hc : ¬ (a0.size = 16 ∧ a1.size = 12 ∧ 0 < a2 ∧ a2 ≤ 1048576)) (w : World) :
    Calls Try.prog 32 #[.string a0, .string a1, .int .i64 a2] w fun e w' => e = .returned (.string ⟨#[]⟩) ∧ Below w.heap.size w w' := by
  by_cases h0 : a0.size = 16
  · have t0 : ((a0.size : Int) != 16) = false := by simp [h0]
    by_cases h1 : a1.size = 12
    · have t1 : ((a1.size : Int) != 12) = false := by simp [h1]
      by_cases h2 : a2 ≤ 0
      · have t2 : decide (a2 ≤ 0) = true := decide_eq_true h2
        clear hc
        go_enter Try.func32, Try.ntmps32
        go_wp2
        go_ret
        exact ⟨rfl, (Below.refl _ _).alloc (Nat.le_refl _) _⟩
      · have t2 : decide (a2 ≤ 0) = false := decide_eq_false h2
        have h3 : a2 > 1048576 := by omega
        have t3 : decide (a2 > 1048576) = true := decide_eq_true h3
        have t4 : decide (1048576 < a2) = true := decide_eq_true h3
        clear hc
        go_enter Try.func32, Try.ntmps32
        go_wp2
        go_ret
        exact ⟨rfl, (Below.refl _ _).alloc (Nat.le_refl _) _⟩
    · have t1 : ((a1.size : Int) != 12) = true := by rw [bne_iff_ne]; omega
      clear hc
      go_enter Try.func32, Try.ntmps32
      go_wp2
      go_ret
      exact ⟨rfl, (Below.refl _ _).alloc (Nat.le_refl _) _⟩
  · have t0 : ((a0.size : Int) != 16) = true := by rw [bne_iff_ne]; omega
    clear hc
    go_enter Try.func32, Try.ntmps32
    go_wp2
    go_ret
    exact ⟨rfl, (Below.refl _ _).alloc (Nat.le_refl _) _⟩
theorem ctr_Stream.calls (a0 a1 : ByteArray) (a2 : Int) (r : ByteArray) (w : World) (h : ctr_Stream.f a0 a1 a2 = some r) :
    Calls Try.prog 32 #[.string a0, .string a1, .int .i64 a2] w fun e w' => e = .returned (.string r) ∧ Below w.heap.size w w' := by
  unfold ctr_Stream.f at h
  by_cases hc : a0.size = 16 ∧ a1.size = 12 ∧ 0 < a2 ∧ a2 ≤ 1048576
  · rw [if_pos hc] at h
    obtain rfl := Option.some.inj h
    obtain ⟨n, rfl⟩ : ∃ n : Nat, a2 = n := ⟨a2.toNat, by omega⟩
    rw [Int.toNat_natCast]
    exact stream_walk a0 a1 n hc.1 hc.2.1 (by omega) (by omega) w
  · rw [if_neg hc] at h
    obtain rfl := Option.some.inj h
    exact stream_out a0 a1 a2 hc w
end Go.Proofs.Ytkgijkfcmbpgpaa.Giv
