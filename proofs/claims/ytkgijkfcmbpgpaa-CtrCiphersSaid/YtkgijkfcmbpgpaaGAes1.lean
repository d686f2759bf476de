/- Package aes: the plain functions of its bytes; the table of all bytes swapped. -/
import Derived.Test.YtkgijkfcmbpgpaaGBase
import Derived.WalkMore
import Derived.ScopeJumps
import Derived.KernelRfl
namespace Go.Proofs.Ytkgijkfcmbpgpaa.Giv
open Go.RowKit Go.Proofs.YtkgijkfcmbpgpaaW.PrintWords Go.Proofs.YtkgijkfcmbpgpaaW.PrintLast Go.Proofs.YtkgijkfcmbpgpaaW.PrintMore Go.Proofs.Ytkgijkfcmbpgpaa.PSub
set_option linter.unusedVariables false
set_option linter.unusedSimpArgs false

/-- A byte. -/
def U8 (x : Int) : Prop := 0 ≤ x ∧ x < 256
theorem u8_wrap (x : Int) : U8 (IntKind.u8.wrap x) := by
  rw [show IntKind.u8.wrap x = x % 256 from rfl]; unfold U8; omega
theorem bits_u8 (o : BinOp) (x y : Int) (h : o = .and ∨ o = .or ∨ o = .xor) : U8 (Go.bits o .u8 x y) := by
  unfold Go.bits
  rcases h with rfl | rfl | rfl <;> simp <;> exact u8_wrap _
def tw (x : Int) : Int := if (Go.bits .and .u8 x 128) = 0 then ((x * 2) % 256) else (Go.bits .xor .u8 ((x * 2) % 256) 27)
theorem tw_some (x : Int) : aes_twice.f x = some (tw x) := by
  unfold aes_twice.f tw
  split <;> rfl
theorem times_some : ∀ (n : Nat) (x b acc : Int), 0 ≤ b → b < 2 ^ n → ∃ r, aes_Times.l0 (n + 1) x b acc = some r
  | 0, x, b, acc, h0, h1 => by
    simp only [aes_Times.l0]
    rw [if_pos (by simp at h1; omega)]
    exact ⟨_, rfl⟩
  | n + 1, x, b, acc, h0, h1 => by
    rw [aes_Times.l0]
    by_cases hb : b = 0
    · rw [if_pos hb]; exact ⟨_, rfl⟩
    · rw [if_neg hb, tw_some]
      have h2 : b / 2 < 2 ^ n := by rw [Int.pow_succ] at h1; omega
      split
      · exact times_some n _ _ _ (by omega) h2
      · exact times_some n _ _ _ (by omega) h2
def mulZ (x b : Int) : Int := (aes_Times.f 9 x b).getD 0
theorem mulZ_some (x b : Int) (h0 : 0 ≤ b) (h1 : b < 256) : aes_Times.f 9 x b = some (mulZ x b) := by
  obtain ⟨r, hr⟩ := times_some 8 x b 0 h0 (by simpa using h1)
  have e : aes_Times.f 9 x b = some r := hr
  unfold mulZ; rw [e]; rfl
def lf (x k : Int) : Int := Go.bits .or .u8 (shl .u8 x k) (shr .u8 x (8 - k))
theorem lf_some (x k : Int) (h0 : 0 ≤ k) (h1 : k ≤ 8) : aes_left.f x k = some (lf x k) := by
  unfold aes_left.f lf
  have e : wrap64 (8 - k) = 8 - k := by unfold wrap64; omega
  rw [e, if_pos h0, if_pos (by omega)]
def nextA (a : Int) : Int := Go.bits .xor .u8 a (tw a)
def swA : Nat → Int
  | 0 => 1
  | k + 1 => nextA (swA k)
def swB : Nat → Int
  | 0 => 1
  | k + 1 => mulZ (swB k) 246
def boxZ (b : Int) : Int := Go.bits .xor .u8 (Go.bits .xor .u8 (Go.bits .xor .u8 (Go.bits .xor .u8 (Go.bits .xor .u8 b (lf b 1)) (lf b 2)) (lf b 3)) (lf b 4)) 99
/-- The table behind k rounds. -/
def swT : Nat → List Int
  | 0 => List.replicate 256 0
  | k + 1 => (swT k).set (swA (k + 1)).toNat (boxZ (swB (k + 1)))
def swapsL : List Int := (swT 255).set 0 99
theorem swT_len : ∀ k, (swT k).length = 256
  | 0 => by unfold swT; rw [List.length_replicate]
  | k + 1 => by unfold swT; rw [List.length_set, swT_len k]
theorem swapsL_len : swapsL.length = 256 := by unfold swapsL; rw [List.length_set, swT_len]
theorem nextA_u8 (a : Int) : U8 (nextA a) := bits_u8 _ _ _ (.inr (.inr rfl))
def chkA : Nat → Int → Bool
  | 0, a => a == 1
  | n + 1, a => (a != 1) && chkA n (nextA a)
theorem chkA_run : ∀ (n k : Nat), chkA n (swA k) = true → (∀ j, j < n → swA (k + j) ≠ 1) ∧ swA (k + n) = 1
  | 0, k, h => ⟨fun j hj => by omega, by simpa [chkA] using h⟩
  | n + 1, k, h => by
    simp only [chkA, Bool.and_eq_true, bne_iff_ne, ne_eq] at h
    obtain ⟨h1, h2⟩ := chkA_run n (k + 1) h.2
    refine ⟨fun j hj => ?_, by rw [show k + (n + 1) = k + 1 + n from by omega]; exact h2⟩
    by_cases h0 : j = 0
    · subst h0; exact h.1
    · have := h1 (j - 1) (by omega)
      rwa [show k + 1 + (j - 1) = k + j from by omega] at this
theorem swA_run : (∀ j, j < 254 → swA (1 + j) ≠ 1) ∧ swA 255 = 1 := chkA_run 254 1 (by kernel_rfl)

/-- The least that has it. -/
theorem least_of (p : Nat → Prop) : ∀ n, p n → ∃ m, p m ∧ ∀ j, p j → m ≤ j := by
  intro n
  induction n using Nat.strongRecOn with
  | _ n ih =>
    intro h
    by_cases hx : ∃ j, j < n ∧ p j
    · obtain ⟨j, hj, hp⟩ := hx
      exact ih j hj hp
    · exact ⟨n, h, fun j hj => Nat.le_of_not_lt fun hlt => hx ⟨j, hlt, hj⟩⟩
open Classical in
noncomputable def lv (p : Nat → Prop) : Nat := if h : ∃ m, p m ∧ ∀ j, p j → m ≤ j then Classical.choose h else 0
open Classical in
theorem lv_spec {p : Nat → Prop} (h : ∃ n, p n) : p (lv p) ∧ ∀ j, p j → lv p ≤ j := by
  have h2 : ∃ m, p m ∧ ∀ j, p j → m ≤ j := by obtain ⟨n, hn⟩ := h; exact least_of p n hn
  unfold lv
  rw [dif_pos h2]
  exact Classical.choose_spec h2
/-- A scope in which the run jumps back to one label, with a number that every jump lowers. -/
theorem wp_scope_down {P : Program} {a : Act} {w : World} {Q : Exit → Act → World → Prop} {c rest : Code} (l : Nat) (J : Nat → Act → World → Prop) (hf : findLabel c l = some rest)
    (first : c.wp P (Exit.jump l (fun a w => ∃ n, J n a w) Q) a w)
    (pass : ∀ n a w, J n a w → rest.wp P (Exit.jump l (fun a' w' => ∃ m, m < n ∧ J m a' w') Q) a w) : (Code.scope c).wp P Q a w :=
  wp_scope_jumps l (fun a w => ∃ n, J n a w) (fun a w => lv (fun n => J n a w)) hf first fun a w hJ =>
    Code.wp_mono (fun e a' w' h => by
      cases e with
      | goto l' =>
        obtain ⟨e1, m, hm, hj⟩ := h
        exact ⟨e1, ⟨m, hj⟩, Nat.lt_of_le_of_lt ((lv_spec (p := fun n => J n a' w') ⟨m, hj⟩).2 m hj) hm⟩
      | _ => exact h) (pass _ a w (lv_spec hJ).1)

def J0 (w : World) (n : Nat) (a' : Act) (w' : World) : Prop :=
  ∃ (k : Nat) (u4 u5 u6 u7 u8 u9 u10 u11 u12 u13 u14 u15 u16 u17 u18 u19 u20 u21 u22 u23 u24 u25 u26 u27 : Value), n = 255 - k ∧ 1 ≤ k ∧ k < 255 ∧ a' = { tmps := #[.pointer (some ⟨w.heap.size, 0, none⟩), .pointer (some ⟨w.heap.size + 1, 0, none⟩), .int .u8 (swA k), .int .u8 (swB k), u4, u5, u6, u7, u8, u9, u10, u11, u12, u13, u14, u15, u16, u17, u18, u19, u20, u21, u22, u23, u24, u25, u26, u27, undef, undef], defers := [] } ∧
    w'.heap[w.heap.size + 1]? = some (.cells (AK .u8 (swT k)) 59 (0, 0)) ∧ w'.heap[w.heap.size]? = some (.cells (AK .u8 (swT 0)) 59 (0, 0)) ∧ Below w.heap.size w w'
theorem zero256 : Try.zeroCells59 = AK .u8 (swT 0) := by kernel_rfl

set_option maxHeartbeats 4000000 in
set_option maxRecDepth 100000 in
theorem aes_swaps (w : World) : Calls Try.prog 45 #[] w fun e w' => e = .returned (.agg (AK .u8 swapsL)) ∧ Below w.heap.size w w' := by
  go_enter Try.func45, Try.ntmps45
  go_wp2_with fail
  rw [zero256]
  refine wp_scope_down 0 (J0 w) rfl ?_ ?_
  · go_wp2_with fail
    go_step3
    rw [zero256]
    have hb1 := heap_alloc2_new w (.cells (AK .u8 (swT 0)) 59) (.cells (AK .u8 (swT 0)) 59)
    have hb0 := heap_alloc2_old w (.cells (AK .u8 (swT 0)) 59) (.cells (AK .u8 (swT 0)) 59)
    have hB : Below w.heap.size w ((w.alloc (.cells (AK .u8 (swT 0)) 59)).alloc (.cells (AK .u8 (swT 0)) 59)) := ((Below.refl _ _).alloc (Nat.le_refl _) _).alloc (by simp) _
    generalize (w.alloc (.cells (AK .u8 (swT 0)) 59)).alloc (.cells (AK .u8 (swT 0)) 59) = wr at *
    have hA : U8 (Go.bits .xor .u8 1 (tw 1)) := nextA_u8 1
    have hl := swT_len 0
    have hc := AK_cell hb1 (Go.bits .xor .u8 1 (tw 1)).toNat (by rw [hl]; unfold U8 at hA; omega)
    have hf := frozen_of_row wr (w.heap.size + 1) (Go.bits .xor .u8 1 (tw 1)).toNat _ _ hb1
    have t1 := hA.1
    have t2 := hA.2
    have HB1 := Aside0.mk hb1
    have HB0 := Aside0.mk hb0
    clear hb1 hb0 hA hl
    go_wp2_with (first | (go_at_call 44; refine (aes_twice.calls _ _ _ (tw_some _)).mono ?_; rintro e w' ⟨rfl, m, rfl⟩) | (go_at_call 20; refine (aes_Times.calls 9 _ _ _ _ (mulZ_some _ _ (by omega) (by omega))).mono ?_; rintro e w' ⟨rfl, m, rfl⟩) | (go_at_call 61; refine (aes_left.calls _ _ _ _ (lf_some _ _ (by omega) (by omega))).mono ?_; rintro e w' ⟨rfl, m, rfl⟩))
    · go_step3
      refine ⟨rfl, 254, 1, _, _, _, _, _, _, _, _, _, _, _, _, _, _, _, _, _, _, _, _, _, _, _, _, rfl, by omega, by omega, rfl, ?_, ?_, ?_⟩
      · exact AK_store (w := wr.drewN _) HB1.out _ _
      · rw [heap_setCell_other _ _ _ _ (by simp)]; exact HB0.out
      · exact (pw_below_drewN hB _).setCell (by simp) _
  · rintro n a' wr ⟨k, u4, u5, u6, u7, u8, u9, u10, u11, u12, u13, u14, u15, u16, u17, u18, u19, u20, u21, u22, u23, u24, u25, u26, u27, rfl, hk1, hk2, rfl, hb1, hb0, hB⟩
    have hA : U8 (Go.bits .xor .u8 (swA k) (tw (swA k))) := nextA_u8 (swA k)
    have hl := swT_len k
    have hc := AK_cell hb1 (Go.bits .xor .u8 (swA k) (tw (swA k))).toNat (by rw [hl]; unfold U8 at hA; omega)
    have hf := frozen_of_row wr (w.heap.size + 1) (Go.bits .xor .u8 (swA k) (tw (swA k))).toNat _ _ hb1
    have t1 := hA.1
    have t2 := hA.2
    have HB1 := Aside0.mk hb1
    have HB0 := Aside0.mk hb0
    clear hb1 hb0 hA hl
    by_cases h254 : k = 254
    · have e1 : swA (k + 1) = 1 := by rw [h254]; exact swA_run.2
      have e1' : Go.bits .xor .u8 (swA k) (tw (swA k)) = 1 := e1
      have t3 : (Go.bits .xor .u8 (swA k) (tw (swA k)) != 1) = false := by rw [e1']; rfl
      have hl := swT_len k
      have hc0 : ∀ (m : Nat) (v : Value), ((wr.drewN m).setCell ⟨w.heap.size + 1, (Go.bits .xor .u8 (swA k) (tw (swA k))).toNat, none⟩ v).cell? ⟨w.heap.size + 1, 0, none⟩ = some (.int .u8 ((swT k).getD 0 0)) := fun m v =>
        (World.cell?_setCell_other (w := wr.drewN m) (a := ⟨w.heap.size + 1, (Go.bits .xor .u8 (swA k) (tw (swA k))).toNat, none⟩) (b := ⟨w.heap.size + 1, 0, none⟩) (v := v) (by rw [e1']; simp)).trans (AK_cell (w := wr.drewN m) HB1.out 0 (by rw [hl]; omega))
      have hf0 := frozen_of_row wr (w.heap.size + 1) 0 _ _ HB1.out
      have HL := Aside0.mk hl
      have E1 := Aside0.mk h254
      clear e1 e1' hl h254
      have HF := Aside0.mk (fun m : Nat => show (((wr.drewN m).setCell ⟨w.heap.size + 1, (Go.bits .xor .u8 (swA k) (tw (swA k))).toNat, none⟩ (.int .u8 (boxZ (mulZ (swB k) 246)))).setCell ⟨w.heap.size + 1, 0, none⟩ (.int .u8 99)).heap[w.heap.size + 1]? = some (.cells (AK .u8 swapsL) 59 (0, 0)) by
        refine (AK_store (AK_store (w := wr.drewN m) HB1.out _ _) _ _).trans ?_
        rw [E1.out]
        rfl)
      have HS := Aside0.mk (fun m : Nat => show (((wr.drewN m).setCell ⟨w.heap.size + 1, (Go.bits .xor .u8 (swA k) (tw (swA k))).toNat, none⟩ (.int .u8 (boxZ (mulZ (swB k) 246)))).setCell ⟨w.heap.size + 1, 0, none⟩ (.int .u8 99)).heap[w.heap.size]? = some (.cells (AK .u8 (swT 0)) 59 (0, 0)) by
        rw [heap_setCell_other _ _ _ _ (by simp), heap_setCell_other _ _ _ _ (by simp)]; exact HB0.out)
      have HBl := Aside0.mk (fun m : Nat => show Below w.heap.size w (((wr.drewN m).setCell ⟨w.heap.size + 1, (Go.bits .xor .u8 (swA k) (tw (swA k))).toNat, none⟩ (.int .u8 (boxZ (mulZ (swB k) 246)))).setCell ⟨w.heap.size + 1, 0, none⟩ (.int .u8 99)) from ((pw_below_drewN hB m).setCell (by simp) _).setCell (by simp) _)
      clear HB1 HB0 hB
      go_wp2_with (first | (go_at_call 44; refine (aes_twice.calls _ _ _ (tw_some _)).mono ?_; rintro e w' ⟨rfl, m, rfl⟩) | (go_at_call 20; refine (aes_Times.calls 9 _ _ _ _ (mulZ_some _ _ (by omega) (by omega))).mono ?_; rintro e w' ⟨rfl, m, rfl⟩) | (go_at_call 61; refine (aes_left.calls _ _ _ _ (lf_some _ _ (by omega) (by omega))).mono ?_; rintro e w' ⟨rfl, m, rfl⟩) | (refine wpList_load_row rfl 59 (.tmp 1) rfl (w.heap.size + 1) rfl 59 (AK .u8 swapsL) (0, 0) _ (HF.out _) Try.underlying59 rfl (by rw [AK_size, swapsL_len]; kernel_rfl) ?_) | (refine wpList_store_row rfl 59 (.tmp 0) (.tmp 29) rfl w.heap.size (AK .u8 swapsL) rfl rfl 59 (AK .u8 (swT 0)) (HS.out _) (by rw [AK_size, swapsL_len]; kernel_rfl) (by rw [AK_size, AK_size, swapsL_len, swT_len]) (AK_one _ _) ?_))
      simp only [Exit.jump]
      exact bodyPost_ret (results_cell_row (P := Try.prog) (p := 0) (ty := 59) rfl _ _ w.heap.size 59 (AK .u8 swapsL) (0, 0) _ rfl (setRow_heap _ _ _ _ _ _ (HS.out _)) Try.underlying59 rfl (by rw [AK_size, swapsL_len]; kernel_rfl)) rfl ⟨rfl, below_setRow (HBl.out _) (Nat.le_refl _) _⟩
    · have hne : swA (k + 1) ≠ 1 := by
        have := swA_run.1 k (by omega)
        rwa [Nat.add_comm] at this
      have t3 : (Go.bits .xor .u8 (swA k) (tw (swA k)) != 1) = true := by rw [bne_iff_ne]; exact hne
      have HX := Aside0.mk hne
      clear hne
      go_wp2_with (first | (go_at_call 44; refine (aes_twice.calls _ _ _ (tw_some _)).mono ?_; rintro e w' ⟨rfl, m, rfl⟩) | (go_at_call 20; refine (aes_Times.calls 9 _ _ _ _ (mulZ_some _ _ (by omega) (by omega))).mono ?_; rintro e w' ⟨rfl, m, rfl⟩) | (go_at_call 61; refine (aes_left.calls _ _ _ _ (lf_some _ _ (by omega) (by omega))).mono ?_; rintro e w' ⟨rfl, m, rfl⟩))
      go_step3
      refine ⟨rfl, 255 - (k + 1), by omega, k + 1, _, _, _, _, _, _, _, _, _, _, _, _, _, _, _, _, _, _, _, _, _, _, _, _, rfl, by omega, by omega, rfl, ?_, ?_, ?_⟩
      · exact AK_store (w := wr.drewN _) HB1.out _ _
      · rw [heap_setCell_other _ _ _ _ (by simp)]; exact HB0.out
      · exact (pw_below_drewN hB _).setCell (by simp) _
end Go.Proofs.Ytkgijkfcmbpgpaa.Giv
