-- written by wip/printx.py, a program of this session, over the kit's print
import Derived.Test.YtkgijkfcmbpgpaaGAes
import Derived.Test.YtkgijkfcmbpgpaaPAllx0
import Derived.Test.YtkgijkfcmbpgpaaPAllx1
namespace Go.Proofs.Ytkgijkfcmbpgpaa.PAll
open Go.RowKit Go.Proofs.YtkgijkfcmbpgpaaW.PrintWords Go.Proofs.YtkgijkfcmbpgpaaW.PrintLast Go.Proofs.YtkgijkfcmbpgpaaW.PrintMore
open Go.Proofs.Ytkgijkfcmbpgpaa.Giv
attribute [local go_sem] max2_int min2_int max_two min_two max_three min_three max_four min_four   -- for this text's walks alone
set_option linter.unusedVariables false
set_option linter.unusedSimpArgs false

/-! ### legatelaw04_AesField: function 4 -/
def legatelaw04_AesField.j0 : Nat → Int → Int → Int → Bool → Bool → Option (Bool)
  | 0, _, _, _, _, _ => none
  | k + 1, x0, x1, x2, x7, x8 => (aes_Times.f k x0 (Go.bits .xor .u8 x1 x2)).bind fun t120 => ((aes_Times.f k x0 x1).bind fun t121 => ((aes_Times.f k x0 x2).bind fun t122 => (if t120 = (Go.bits .xor .u8 t121 t122) then ((aes_Times.f k x0 1).bind fun t123 => ((aes_Times.f k x0 x1).bind fun t124 => (if x0 = 0 then (if x7 = true then (if x8 = true then (if t123 = x0 then (if ((t124 == 0) == true) = true then ((aes_Swap.f x0).bind fun t125 => ((aes_Swap.f x1).bind fun t126 => (some ((t125 == t126) == (x0 == x1))))) else (some false)) else (some false)) else (some false)) else (some false)) else (if x7 = true then (if x8 = true then (if t123 = x0 then (if ((t124 == 0) == (x1 == 0)) = true then ((aes_Swap.f x0).bind fun t127 => ((aes_Swap.f x1).bind fun t128 => (some ((t127 == t128) == (x0 == x1))))) else (some false)) else (some false)) else (some false)) else (some false))))) else ((aes_Times.f k x0 x1).bind fun t129 => (if x0 = 0 then (if x7 = true then (if x8 = true then (some false) else (some false)) else (some false)) else (if x7 = true then (if x8 = true then (some false) else (some false)) else (some false)))))))
def legatelaw04_AesField.f (k : Nat) (a0 : Int) (a1 : Int) (a2 : Int) : Option (Bool) := (legatelaw04_works.f k).bind fun t113 => (if t113 = true then ((aes_Times.f k a0 a1).bind fun t114 => ((aes_Times.f k a1 a0).bind fun t115 => (if t114 = t115 then ((aes_Times.f k a0 a1).bind fun t116 => ((aes_Times.f k t116 a2).bind fun t117 => ((aes_Times.f k a1 a2).bind fun t118 => ((aes_Times.f k a0 t118).bind fun t119 => (legatelaw04_AesField.j0 k a0 a1 a2 t113 (t117 == t119)))))) else (legatelaw04_AesField.j0 k a0 a1 a2 t113 false)))) else (some false))
theorem legatelaw04_AesField.mono_l : ∀ k, (∀ y0 y1 y2 y3 y4, LeO (legatelaw04_AesField.j0 k y0 y1 y2 y3 y4) (legatelaw04_AesField.j0 (k + 1) y0 y1 y2 y3 y4))
  | 0 => fun _ _ _ _ _ r h => by simp [legatelaw04_AesField.j0] at h
  | k + 1 => by
    have ih0 := legatelaw04_AesField.mono_l k
    · intro y0 y1 y2 y3 y4
      unfold legatelaw04_AesField.j0
      repeat' first
      | (with_reducible exact ih0 _ _ _ _ _)
      | (with_reducible exact aes_Times.mono _ _ _)
      | (with_reducible exact legatelaw04_works.mono _)
      | (with_reducible exact LeO.refl _)
      | (with_reducible exact LeO.none _)
      | (with_reducible refine LeO.ite ?_ ?_)
      | (with_reducible refine LeO.bind ?_ (fun _ => ?_))
      | exact ih0 _ _ _ _ _
      | exact aes_Times.mono _ _ _
      | exact legatelaw04_works.mono _
      | exact LeO.none _
      | refine LeO.ite ?_ ?_
      | refine LeO.bind ?_ (fun _ => ?_)
theorem legatelaw04_AesField.mono : ∀ a0 a1 a2 k, LeO (legatelaw04_AesField.f k a0 a1 a2) (legatelaw04_AesField.f (k + 1) a0 a1 a2) := by
  intro a0 a1 a2 k
  have ih0 := legatelaw04_AesField.mono_l k
  unfold legatelaw04_AesField.f
  repeat' first
      | (with_reducible exact ih0 _ _ _ _ _)
      | (with_reducible exact aes_Times.mono _ _ _)
      | (with_reducible exact legatelaw04_works.mono _)
      | (with_reducible exact LeO.refl _)
      | (with_reducible exact LeO.none _)
      | (with_reducible refine LeO.ite ?_ ?_)
      | (with_reducible refine LeO.bind ?_ (fun _ => ?_))
      | exact ih0 _ _ _ _ _
      | exact aes_Times.mono _ _ _
      | exact legatelaw04_works.mono _
      | exact LeO.none _
      | refine LeO.ite ?_ ?_
      | refine LeO.bind ?_ (fun _ => ?_)
set_option maxHeartbeats 8000000 in
set_option maxRecDepth 100000 in
theorem legatelaw04_AesField.calls (k : Nat) (a0 : Int) (a1 : Int) (a2 : Int) (r : Bool) (w : World) (h : legatelaw04_AesField.f k a0 a1 a2 = some r) :
    Calls Try.prog 4 #[.int .u8 a0, .int .u8 a1, .int .u8 a2] w fun e w' => e = .returned (.bool r) ∧ Below w.heap.size w w' := by
  have HB := Aside0.mk (Below.refl w.heap.size w)
  have H : ((legatelaw04_works.f k).bind fun t113 => (if t113 = true then ((aes_Times.f k a0 a1).bind fun t114 => ((aes_Times.f k a1 a0).bind fun t115 => (if t114 = t115 then ((aes_Times.f k a0 a1).bind fun t116 => ((aes_Times.f k t116 a2).bind fun t117 => ((aes_Times.f k a1 a2).bind fun t118 => ((aes_Times.f k a0 t118).bind fun t119 => (legatelaw04_AesField.j0 k a0 a1 a2 t113 (t117 == t119)))))) else (legatelaw04_AesField.j0 k a0 a1 a2 t113 false)))) else (some false))) = some r := h
  clear h
  replace H := Option.bind_eq_some_iff.mp H
  obtain ⟨t113, A40, H⟩ := H
  replace H : (if t113 = true then ((aes_Times.f k a0 a1).bind fun t114 => ((aes_Times.f k a1 a0).bind fun t115 => (if t114 = t115 then ((aes_Times.f k a0 a1).bind fun t116 => ((aes_Times.f k t116 a2).bind fun t117 => ((aes_Times.f k a1 a2).bind fun t118 => ((aes_Times.f k a0 t118).bind fun t119 => (legatelaw04_AesField.j0 k a0 a1 a2 t113 (t117 == t119)))))) else (legatelaw04_AesField.j0 k a0 a1 a2 t113 false)))) else (some false)) = some r := H
  have A4 := Aside0.mk A40
  clear A40
  by_cases c5 : t113 = true
  · subst c5
    have H1 : ((aes_Times.f k a0 a1).bind fun t114 => ((aes_Times.f k a1 a0).bind fun t115 => (if t114 = t115 then ((aes_Times.f k a0 a1).bind fun t116 => ((aes_Times.f k t116 a2).bind fun t117 => ((aes_Times.f k a1 a2).bind fun t118 => ((aes_Times.f k a0 t118).bind fun t119 => (legatelaw04_AesField.j0 k a0 a1 a2 true (t117 == t119)))))) else (legatelaw04_AesField.j0 k a0 a1 a2 true false)))) = some r := by rw [if_pos rfl] at H; exact H
    clear H
    have H := H1
    clear H1
    have HC6 := Aside0.mk H
    clear H
    go_enter Try.func4, Try.ntmps4
    go_upto_region 4 with (first | ((with_reducible refine gate_callee (f := 19) rfl ?_); refine goesL_ (some 11) rfl rfl Try.func19 (by kernel_rfl) rfl #[] rfl (by (try simp only [List.map_toArray, List.map_cons, List.map_nil]); first | done | rfl | (simp only [List.length_drop, List.length_take]; rfl)) ?_; (with_reducible refine (legatelaw04_works.calls k  true _ A4.out).mono ?_); rintro e w7 ⟨rfl, hb⟩; refine ⟨_, rfl, ?_⟩; have n0_ := Aside0.mk (below_step (by repeat (first | (with_reducible first | exact HB.out | apply below_alloc | apply pw_below_drewN | apply below_drew1) | exact HB.out)) hb); clear HB; have HB := n0_; clear n0_; (try clear hb); (try clear hb2); (try clear hk); (try clear hi)))
    (try simp only [Act.put, List.setIfInBounds_toArray, List.set_cons_zero, List.set_cons_succ])
    go_cut [8] (fun v8 wc => ∃ (kq : Nat) (x8_5 : Bool), v8 = .bool x8_5 ∧ Aside0 (legatelaw04_AesField.j0 kq a0 a1 a2 true x8_5 = some r) ∧ Aside0 (kq ≤ k) ∧ Aside0 (Below w.heap.size w wc))
    case first =>
      have H := HC6.out
      clear HC6
      replace H := Option.bind_eq_some_iff.mp H
      obtain ⟨t114, A80, H⟩ := H
      replace H : ((aes_Times.f k a1 a0).bind fun t115 => (if t114 = t115 then ((aes_Times.f k a0 a1).bind fun t116 => ((aes_Times.f k t116 a2).bind fun t117 => ((aes_Times.f k a1 a2).bind fun t118 => ((aes_Times.f k a0 t118).bind fun t119 => (legatelaw04_AesField.j0 k a0 a1 a2 true (t117 == t119)))))) else (legatelaw04_AesField.j0 k a0 a1 a2 true false))) = some r := H
      have A8 := Aside0.mk A80
      clear A80
      replace H := Option.bind_eq_some_iff.mp H
      obtain ⟨t115, A90, H⟩ := H
      replace H : (if t114 = t115 then ((aes_Times.f k a0 a1).bind fun t116 => ((aes_Times.f k t116 a2).bind fun t117 => ((aes_Times.f k a1 a2).bind fun t118 => ((aes_Times.f k a0 t118).bind fun t119 => (legatelaw04_AesField.j0 k a0 a1 a2 true (t117 == t119)))))) else (legatelaw04_AesField.j0 k a0 a1 a2 true false)) = some r := H
      have A9 := Aside0.mk A90
      clear A90
      by_cases c10 : t114 = t115
      · rw [if_pos c10] at H
        have c10b0 : (t114 == t115) = true := beq_iff_eq.mpr c10
        have c10b1 : (t114 != t115) = false := bne_eq_false_iff_eq.mpr c10
        clear c10
        (first | rw [c10b0] | (simp only [i64_w, i32_w]; rw [c10b0]) | skip)
        replace H := Option.bind_eq_some_iff.mp H
        obtain ⟨t116, A110, H⟩ := H
        replace H : ((aes_Times.f k t116 a2).bind fun t117 => ((aes_Times.f k a1 a2).bind fun t118 => ((aes_Times.f k a0 t118).bind fun t119 => (legatelaw04_AesField.j0 k a0 a1 a2 true (t117 == t119))))) = some r := H
        have A11 := Aside0.mk A110
        clear A110
        replace H := Option.bind_eq_some_iff.mp H
        obtain ⟨t117, A120, H⟩ := H
        replace H : ((aes_Times.f k a1 a2).bind fun t118 => ((aes_Times.f k a0 t118).bind fun t119 => (legatelaw04_AesField.j0 k a0 a1 a2 true (t117 == t119)))) = some r := H
        have A12 := Aside0.mk A120
        clear A120
        replace H := Option.bind_eq_some_iff.mp H
        obtain ⟨t118, A130, H⟩ := H
        replace H : ((aes_Times.f k a0 t118).bind fun t119 => (legatelaw04_AesField.j0 k a0 a1 a2 true (t117 == t119))) = some r := H
        have A13 := Aside0.mk A130
        clear A130
        replace H := Option.bind_eq_some_iff.mp H
        obtain ⟨t119, A140, H⟩ := H
        replace H : (legatelaw04_AesField.j0 k a0 a1 a2 true (t117 == t119)) = some r := H
        have A14 := Aside0.mk A140
        clear A140
        have H' := Aside0.mk H
        clear H
        go_wp2_with (first | ((with_reducible refine gate_callee (f := 20) rfl ?_); refine goesL_ (some 16) rfl rfl Try.func20 (by kernel_rfl) rfl #[.int .u8 a0, .int .u8 a1] rfl (by (try simp only [List.map_toArray, List.map_cons, List.map_nil]); first | done | rfl | (simp only [List.length_drop, List.length_take]; rfl)) ?_; (with_reducible refine (aes_Times.calls k a0 a1 t114 _ A8.out).mono ?_); rintro e w' ⟨rfl, ⟨nd, rfl⟩⟩; refine ⟨_, rfl, ?_⟩) | ((with_reducible refine gate_callee (f := 20) rfl ?_); refine goesL_ (some 19) rfl rfl Try.func20 (by kernel_rfl) rfl #[.int .u8 a1, .int .u8 a0] rfl (by (try simp only [List.map_toArray, List.map_cons, List.map_nil]); first | done | rfl | (simp only [List.length_drop, List.length_take]; rfl)) ?_; (with_reducible refine (aes_Times.calls k a1 a0 t115 _ A9.out).mono ?_); rintro e w' ⟨rfl, ⟨nd, rfl⟩⟩; refine ⟨_, rfl, ?_⟩) | (go_at_call 20; (with_reducible refine (aes_Times.calls k a0 a1 t116 _ A11.out).mono ?_); rintro e w' ⟨rfl, ⟨nd, rfl⟩⟩) | (go_at_call 20; (with_reducible refine (aes_Times.calls k t116 a2 t117 _ A12.out).mono ?_); rintro e w' ⟨rfl, ⟨nd, rfl⟩⟩) | (go_at_call 20; (with_reducible refine (aes_Times.calls k a1 a2 t118 _ A13.out).mono ?_); rintro e w' ⟨rfl, ⟨nd, rfl⟩⟩) | (go_at_call 20; (with_reducible refine (aes_Times.calls k a0 t118 t119 _ A14.out).mono ?_); rintro e w' ⟨rfl, ⟨nd, rfl⟩⟩))
        go_meet
        case rel => exact ⟨_, ((t117 == t119)), (by first | rfl | (simp; done) | (simp [*]; done)), H', ⟨by first | omega | exact Nat.le_refl _⟩, ⟨by repeat (first | (with_reducible first | exact HB.out | apply below_alloc | apply pw_below_drewN | apply below_drew1) | exact HB.out)⟩⟩
      · rw [if_neg c10] at H
        have c10b0 : (t114 == t115) = false := beq_eq_false_iff_ne.mpr c10
        have c10b1 : (t114 != t115) = true := bne_iff_ne.mpr c10
        (first | rw [c10b0] | (simp only [i64_w, i32_w]; rw [c10b0]) | skip)
        have H' := Aside0.mk H
        clear H
        go_wp2_with (first | ((with_reducible refine gate_callee (f := 20) rfl ?_); refine goesL_ (some 16) rfl rfl Try.func20 (by kernel_rfl) rfl #[.int .u8 a0, .int .u8 a1] rfl (by (try simp only [List.map_toArray, List.map_cons, List.map_nil]); first | done | rfl | (simp only [List.length_drop, List.length_take]; rfl)) ?_; (with_reducible refine (aes_Times.calls k a0 a1 t114 _ A8.out).mono ?_); rintro e w' ⟨rfl, ⟨nd, rfl⟩⟩; refine ⟨_, rfl, ?_⟩) | ((with_reducible refine gate_callee (f := 20) rfl ?_); refine goesL_ (some 19) rfl rfl Try.func20 (by kernel_rfl) rfl #[.int .u8 a1, .int .u8 a0] rfl (by (try simp only [List.map_toArray, List.map_cons, List.map_nil]); first | done | rfl | (simp only [List.length_drop, List.length_take]; rfl)) ?_; (with_reducible refine (aes_Times.calls k a1 a0 t115 _ A9.out).mono ?_); rintro e w' ⟨rfl, ⟨nd, rfl⟩⟩; refine ⟨_, rfl, ?_⟩))
        go_meet
        case rel => exact ⟨_, (false), (by first | rfl | (simp; done) | (simp [*]; done)), H', ⟨by first | omega | exact Nat.le_refl _⟩, ⟨by repeat (first | (with_reducible first | exact HB.out | apply below_alloc | apply pw_below_drewN | apply below_drew1) | exact HB.out)⟩⟩
    case rest =>
      clear HC6
      try clear c1
      try clear c2
      try clear p2
      try clear c4
      try clear c5
      try clear c10
      try clear c10b0
      try clear c10b1
      obtain ⟨kq, x8_5, rfl, HA, HJ5, HB⟩ := hcut
      cases kq with
      | zero => exact absurd HA.out (by simp [legatelaw04_AesField.j0])
      | succ kj5 =>
        have H := HA.out
        clear HA
        simp only [legatelaw04_AesField.j0] at H
        replace H := Option.bind_eq_some_iff.mp H
        obtain ⟨t120, A150, H⟩ := H
        replace H : ((aes_Times.f kj5 a0 a1).bind fun t121 => ((aes_Times.f kj5 a0 a2).bind fun t122 => (if t120 = (Go.bits .xor .u8 t121 t122) then ((aes_Times.f kj5 a0 1).bind fun t123 => ((aes_Times.f kj5 a0 a1).bind fun t124 => (if a0 = 0 then (if true = true then (if x8_5 = true then (if t123 = a0 then (if ((t124 == 0) == true) = true then ((aes_Swap.f a0).bind fun t125 => ((aes_Swap.f a1).bind fun t126 => (some ((t125 == t126) == (a0 == a1))))) else (some false)) else (some false)) else (some false)) else (some false)) else (if true = true then (if x8_5 = true then (if t123 = a0 then (if ((t124 == 0) == (a1 == 0)) = true then ((aes_Swap.f a0).bind fun t127 => ((aes_Swap.f a1).bind fun t128 => (some ((t127 == t128) == (a0 == a1))))) else (some false)) else (some false)) else (some false)) else (some false))))) else ((aes_Times.f kj5 a0 a1).bind fun t129 => (if a0 = 0 then (if true = true then (if x8_5 = true then (some false) else (some false)) else (some false)) else (if true = true then (if x8_5 = true then (some false) else (some false)) else (some false))))))) = some r := H
        have A15 := Aside0.mk A150
        clear A150
        replace H := Option.bind_eq_some_iff.mp H
        obtain ⟨t121, A160, H⟩ := H
        replace H : ((aes_Times.f kj5 a0 a2).bind fun t122 => (if t120 = (Go.bits .xor .u8 t121 t122) then ((aes_Times.f kj5 a0 1).bind fun t123 => ((aes_Times.f kj5 a0 a1).bind fun t124 => (if a0 = 0 then (if true = true then (if x8_5 = true then (if t123 = a0 then (if ((t124 == 0) == true) = true then ((aes_Swap.f a0).bind fun t125 => ((aes_Swap.f a1).bind fun t126 => (some ((t125 == t126) == (a0 == a1))))) else (some false)) else (some false)) else (some false)) else (some false)) else (if true = true then (if x8_5 = true then (if t123 = a0 then (if ((t124 == 0) == (a1 == 0)) = true then ((aes_Swap.f a0).bind fun t127 => ((aes_Swap.f a1).bind fun t128 => (some ((t127 == t128) == (a0 == a1))))) else (some false)) else (some false)) else (some false)) else (some false))))) else ((aes_Times.f kj5 a0 a1).bind fun t129 => (if a0 = 0 then (if true = true then (if x8_5 = true then (some false) else (some false)) else (some false)) else (if true = true then (if x8_5 = true then (some false) else (some false)) else (some false)))))) = some r := H
        have A16 := Aside0.mk A160
        clear A160
        replace H := Option.bind_eq_some_iff.mp H
        obtain ⟨t122, A170, H⟩ := H
        replace H : (if t120 = (Go.bits .xor .u8 t121 t122) then ((aes_Times.f kj5 a0 1).bind fun t123 => ((aes_Times.f kj5 a0 a1).bind fun t124 => (if a0 = 0 then (if true = true then (if x8_5 = true then (if t123 = a0 then (if ((t124 == 0) == true) = true then ((aes_Swap.f a0).bind fun t125 => ((aes_Swap.f a1).bind fun t126 => (some ((t125 == t126) == (a0 == a1))))) else (some false)) else (some false)) else (some false)) else (some false)) else (if true = true then (if x8_5 = true then (if t123 = a0 then (if ((t124 == 0) == (a1 == 0)) = true then ((aes_Swap.f a0).bind fun t127 => ((aes_Swap.f a1).bind fun t128 => (some ((t127 == t128) == (a0 == a1))))) else (some false)) else (some false)) else (some false)) else (some false))))) else ((aes_Times.f kj5 a0 a1).bind fun t129 => (if a0 = 0 then (if true = true then (if x8_5 = true then (some false) else (some false)) else (some false)) else (if true = true then (if x8_5 = true then (some false) else (some false)) else (some false))))) = some r := H
        have A17 := Aside0.mk A170
        clear A170
        by_cases c18 : t120 = (Go.bits .xor .u8 t121 t122)
        · rw [if_pos c18] at H
          have c18b0 : (t120 == (Go.bits .xor .u8 t121 t122)) = true := beq_iff_eq.mpr c18
          have c18b1 : (t120 != (Go.bits .xor .u8 t121 t122)) = false := bne_eq_false_iff_eq.mpr c18
          clear c18
          replace H := Option.bind_eq_some_iff.mp H
          obtain ⟨t123, A190, H⟩ := H
          replace H : ((aes_Times.f kj5 a0 a1).bind fun t124 => (if a0 = 0 then (if true = true then (if x8_5 = true then (if t123 = a0 then (if ((t124 == 0) == true) = true then ((aes_Swap.f a0).bind fun t125 => ((aes_Swap.f a1).bind fun t126 => (some ((t125 == t126) == (a0 == a1))))) else (some false)) else (some false)) else (some false)) else (some false)) else (if true = true then (if x8_5 = true then (if t123 = a0 then (if ((t124 == 0) == (a1 == 0)) = true then ((aes_Swap.f a0).bind fun t127 => ((aes_Swap.f a1).bind fun t128 => (some ((t127 == t128) == (a0 == a1))))) else (some false)) else (some false)) else (some false)) else (some false)))) = some r := H
          have A19 := Aside0.mk A190
          clear A190
          replace H := Option.bind_eq_some_iff.mp H
          obtain ⟨t124, A200, H⟩ := H
          replace H : (if a0 = 0 then (if true = true then (if x8_5 = true then (if t123 = a0 then (if ((t124 == 0) == true) = true then ((aes_Swap.f a0).bind fun t125 => ((aes_Swap.f a1).bind fun t126 => (some ((t125 == t126) == (a0 == a1))))) else (some false)) else (some false)) else (some false)) else (some false)) else (if true = true then (if x8_5 = true then (if t123 = a0 then (if ((t124 == 0) == (a1 == 0)) = true then ((aes_Swap.f a0).bind fun t127 => ((aes_Swap.f a1).bind fun t128 => (some ((t127 == t128) == (a0 == a1))))) else (some false)) else (some false)) else (some false)) else (some false))) = some r := H
          have A20 := Aside0.mk A200
          clear A200
          by_cases c21 : a0 = 0
          · rw [if_pos c21] at H
            have c21b0 : (a0 == 0) = true := beq_iff_eq.mpr c21
            have c21b1 : (a0 != 0) = false := bne_eq_false_iff_eq.mpr c21
            clear c21
            by_cases c22 : true = true
            · clear c22
              have H1 : (if x8_5 = true then (if t123 = a0 then (if ((t124 == 0) == true) = true then ((aes_Swap.f a0).bind fun t125 => ((aes_Swap.f a1).bind fun t126 => (some ((t125 == t126) == (a0 == a1))))) else (some false)) else (some false)) else (some false)) = some r := by first | (rw [if_pos rfl] at H; exact H) | (rw [if_pos trivial] at H; exact H) | simpa using H
              clear H
              have H := H1
              clear H1
              by_cases c23 : x8_5 = true
              · subst c23
                have H1 : (if t123 = a0 then (if ((t124 == 0) == true) = true then ((aes_Swap.f a0).bind fun t125 => ((aes_Swap.f a1).bind fun t126 => (some ((t125 == t126) == (a0 == a1))))) else (some false)) else (some false)) = some r := by rw [if_pos rfl] at H; exact H
                clear H
                have H := H1
                clear H1
                by_cases c24 : t123 = a0
                · rw [if_pos c24] at H
                  have c24b0 : (t123 == a0) = true := beq_iff_eq.mpr c24
                  have c24b1 : (t123 != a0) = false := bne_eq_false_iff_eq.mpr c24
                  clear c24
                  by_cases c25 : ((t124 == 0) == true) = true
                  · rw [if_pos c25] at H
                    have c25b0 : ((t124 == 0) == true) = true := c25
                    (try (have c25b1 : decide ((t124 == 0) = true) = true := by simpa using c25))
                    (try (have c25b2 : ((t124 == 0) == true) = true := by simpa using c25))
                    clear c25
                    replace H := Option.bind_eq_some_iff.mp H
                    obtain ⟨t125, A260, H⟩ := H
                    replace H : ((aes_Swap.f a1).bind fun t126 => (some ((t125 == t126) == (a0 == a1)))) = some r := H
                    have A26 := Aside0.mk A260
                    clear A260
                    replace H := Option.bind_eq_some_iff.mp H
                    obtain ⟨t126, A270, H⟩ := H
                    replace H : (some ((t125 == t126) == (a0 == a1))) = some r := H
                    have A27 := Aside0.mk A270
                    clear A270
                    obtain rfl := Option.some.inj H
                    go_wp2_with (first | ((with_reducible refine gate_callee (f := 20) rfl ?_); refine goesL_ (some 38) rfl rfl Try.func20 (by kernel_rfl) rfl #[.int .u8 a0, .int .u8 (Go.bits .xor .u8 a1 a2)] rfl (by (try simp only [List.map_toArray, List.map_cons, List.map_nil]); first | done | rfl | (simp only [List.length_drop, List.length_take]; rfl)) ?_; (with_reducible refine (aes_Times.calls kj5 a0 (Go.bits .xor .u8 a1 a2) t120 _ A15.out).mono ?_); rintro e w' ⟨rfl, ⟨nd, rfl⟩⟩; refine ⟨_, rfl, ?_⟩) | ((with_reducible refine gate_callee (f := 20) rfl ?_); refine goesL_ (some 41) rfl rfl Try.func20 (by kernel_rfl) rfl #[.int .u8 a0, .int .u8 a1] rfl (by (try simp only [List.map_toArray, List.map_cons, List.map_nil]); first | done | rfl | (simp only [List.length_drop, List.length_take]; rfl)) ?_; (with_reducible refine (aes_Times.calls kj5 a0 a1 t121 _ A16.out).mono ?_); rintro e w' ⟨rfl, ⟨nd, rfl⟩⟩; refine ⟨_, rfl, ?_⟩) | ((with_reducible refine gate_callee (f := 20) rfl ?_); refine goesL_ (some 44) rfl rfl Try.func20 (by kernel_rfl) rfl #[.int .u8 a0, .int .u8 a2] rfl (by (try simp only [List.map_toArray, List.map_cons, List.map_nil]); first | done | rfl | (simp only [List.length_drop, List.length_take]; rfl)) ?_; (with_reducible refine (aes_Times.calls kj5 a0 a2 t122 _ A17.out).mono ?_); rintro e w' ⟨rfl, ⟨nd, rfl⟩⟩; refine ⟨_, rfl, ?_⟩) | (go_at_call 20; (with_reducible refine (aes_Times.calls kj5 a0 1 t123 _ A19.out).mono ?_); rintro e w' ⟨rfl, ⟨nd, rfl⟩⟩) | ((with_reducible refine gate_callee (f := 20) rfl ?_); refine goesL_ (some 55) rfl rfl Try.func20 (by kernel_rfl) rfl #[.int .u8 a0, .int .u8 a1] rfl (by (try simp only [List.map_toArray, List.map_cons, List.map_nil]); first | done | rfl | (simp only [List.length_drop, List.length_take]; rfl)) ?_; (with_reducible refine (aes_Times.calls kj5 a0 a1 t124 _ A20.out).mono ?_); rintro e w' ⟨rfl, ⟨nd, rfl⟩⟩; refine ⟨_, rfl, ?_⟩) | (go_at_call 22; (with_reducible refine (aes_Swap.calls a0 t125 _ A26.out).mono ?_); rintro e w28 ⟨rfl, hb⟩; have n0_ := Aside0.mk (below_step (by repeat (first | (with_reducible first | exact HB.out | apply below_alloc | apply pw_below_drewN | apply below_drew1) | exact HB.out)) hb); clear HB; have HB := n0_; clear n0_; (try clear hb); (try clear hb2); (try clear hk); (try clear hi)) | (go_at_call 22; (with_reducible refine (aes_Swap.calls a1 t126 _ A27.out).mono ?_); rintro e w29 ⟨rfl, hb⟩; have n0_ := Aside0.mk (below_step (by repeat (first | (with_reducible first | exact HB.out | apply below_alloc | apply pw_below_drewN | apply below_drew1) | exact HB.out)) hb); clear HB; have HB := n0_; clear n0_; (try clear hb); (try clear hb2); (try clear hk); (try clear hi)))
                    go_ret
                    exact ⟨by first | rfl | (simp [errW_none, errW_some] <;> rfl) | (simp [*, errW_none, errW_some] <;> rfl), by repeat (first | (with_reducible first | exact HB.out | apply below_alloc | apply pw_below_drewN | apply below_drew1) | exact HB.out)⟩
                  · rw [if_neg c25] at H
                    have c25b0 : ((t124 == 0) == true) = false := by simpa using c25
                    (try (have c25b1 : decide ((t124 == 0) = true) = false := by simpa using c25))
                    (try (have c25b2 : ((t124 == 0) == true) = false := by simpa using c25))
                    (try (have c25b3 : ¬ ((t124 == 0) = true) := by simpa using c25))
                    clear c25
                    obtain rfl := Option.some.inj H
                    go_wp2_with (first | ((with_reducible refine gate_callee (f := 20) rfl ?_); refine goesL_ (some 38) rfl rfl Try.func20 (by kernel_rfl) rfl #[.int .u8 a0, .int .u8 (Go.bits .xor .u8 a1 a2)] rfl (by (try simp only [List.map_toArray, List.map_cons, List.map_nil]); first | done | rfl | (simp only [List.length_drop, List.length_take]; rfl)) ?_; (with_reducible refine (aes_Times.calls kj5 a0 (Go.bits .xor .u8 a1 a2) t120 _ A15.out).mono ?_); rintro e w' ⟨rfl, ⟨nd, rfl⟩⟩; refine ⟨_, rfl, ?_⟩) | ((with_reducible refine gate_callee (f := 20) rfl ?_); refine goesL_ (some 41) rfl rfl Try.func20 (by kernel_rfl) rfl #[.int .u8 a0, .int .u8 a1] rfl (by (try simp only [List.map_toArray, List.map_cons, List.map_nil]); first | done | rfl | (simp only [List.length_drop, List.length_take]; rfl)) ?_; (with_reducible refine (aes_Times.calls kj5 a0 a1 t121 _ A16.out).mono ?_); rintro e w' ⟨rfl, ⟨nd, rfl⟩⟩; refine ⟨_, rfl, ?_⟩) | ((with_reducible refine gate_callee (f := 20) rfl ?_); refine goesL_ (some 44) rfl rfl Try.func20 (by kernel_rfl) rfl #[.int .u8 a0, .int .u8 a2] rfl (by (try simp only [List.map_toArray, List.map_cons, List.map_nil]); first | done | rfl | (simp only [List.length_drop, List.length_take]; rfl)) ?_; (with_reducible refine (aes_Times.calls kj5 a0 a2 t122 _ A17.out).mono ?_); rintro e w' ⟨rfl, ⟨nd, rfl⟩⟩; refine ⟨_, rfl, ?_⟩) | (go_at_call 20; (with_reducible refine (aes_Times.calls kj5 a0 1 t123 _ A19.out).mono ?_); rintro e w' ⟨rfl, ⟨nd, rfl⟩⟩) | ((with_reducible refine gate_callee (f := 20) rfl ?_); refine goesL_ (some 55) rfl rfl Try.func20 (by kernel_rfl) rfl #[.int .u8 a0, .int .u8 a1] rfl (by (try simp only [List.map_toArray, List.map_cons, List.map_nil]); first | done | rfl | (simp only [List.length_drop, List.length_take]; rfl)) ?_; (with_reducible refine (aes_Times.calls kj5 a0 a1 t124 _ A20.out).mono ?_); rintro e w' ⟨rfl, ⟨nd, rfl⟩⟩; refine ⟨_, rfl, ?_⟩))
                    go_ret
                    exact ⟨by first | rfl | (simp [errW_none, errW_some] <;> rfl) | (simp [*, errW_none, errW_some] <;> rfl), by repeat (first | (with_reducible first | exact HB.out | apply below_alloc | apply pw_below_drewN | apply below_drew1) | exact HB.out)⟩
                · rw [if_neg c24] at H
                  have c24b0 : (t123 == a0) = false := beq_eq_false_iff_ne.mpr c24
                  have c24b1 : (t123 != a0) = true := bne_iff_ne.mpr c24
                  obtain rfl := Option.some.inj H
                  go_wp2_with (first | ((with_reducible refine gate_callee (f := 20) rfl ?_); refine goesL_ (some 38) rfl rfl Try.func20 (by kernel_rfl) rfl #[.int .u8 a0, .int .u8 (Go.bits .xor .u8 a1 a2)] rfl (by (try simp only [List.map_toArray, List.map_cons, List.map_nil]); first | done | rfl | (simp only [List.length_drop, List.length_take]; rfl)) ?_; (with_reducible refine (aes_Times.calls kj5 a0 (Go.bits .xor .u8 a1 a2) t120 _ A15.out).mono ?_); rintro e w' ⟨rfl, ⟨nd, rfl⟩⟩; refine ⟨_, rfl, ?_⟩) | ((with_reducible refine gate_callee (f := 20) rfl ?_); refine goesL_ (some 41) rfl rfl Try.func20 (by kernel_rfl) rfl #[.int .u8 a0, .int .u8 a1] rfl (by (try simp only [List.map_toArray, List.map_cons, List.map_nil]); first | done | rfl | (simp only [List.length_drop, List.length_take]; rfl)) ?_; (with_reducible refine (aes_Times.calls kj5 a0 a1 t121 _ A16.out).mono ?_); rintro e w' ⟨rfl, ⟨nd, rfl⟩⟩; refine ⟨_, rfl, ?_⟩) | ((with_reducible refine gate_callee (f := 20) rfl ?_); refine goesL_ (some 44) rfl rfl Try.func20 (by kernel_rfl) rfl #[.int .u8 a0, .int .u8 a2] rfl (by (try simp only [List.map_toArray, List.map_cons, List.map_nil]); first | done | rfl | (simp only [List.length_drop, List.length_take]; rfl)) ?_; (with_reducible refine (aes_Times.calls kj5 a0 a2 t122 _ A17.out).mono ?_); rintro e w' ⟨rfl, ⟨nd, rfl⟩⟩; refine ⟨_, rfl, ?_⟩) | (go_at_call 20; (with_reducible refine (aes_Times.calls kj5 a0 1 t123 _ A19.out).mono ?_); rintro e w' ⟨rfl, ⟨nd, rfl⟩⟩) | ((with_reducible refine gate_callee (f := 20) rfl ?_); refine goesL_ (some 55) rfl rfl Try.func20 (by kernel_rfl) rfl #[.int .u8 a0, .int .u8 a1] rfl (by (try simp only [List.map_toArray, List.map_cons, List.map_nil]); first | done | rfl | (simp only [List.length_drop, List.length_take]; rfl)) ?_; (with_reducible refine (aes_Times.calls kj5 a0 a1 t124 _ A20.out).mono ?_); rintro e w' ⟨rfl, ⟨nd, rfl⟩⟩; refine ⟨_, rfl, ?_⟩))
                  go_ret
                  exact ⟨by first | rfl | (simp [errW_none, errW_some] <;> rfl) | (simp [*, errW_none, errW_some] <;> rfl), by repeat (first | (with_reducible first | exact HB.out | apply below_alloc | apply pw_below_drewN | apply below_drew1) | exact HB.out)⟩
              · replace c23 := Bool.eq_false_iff.mpr c23
                subst c23
                have H1 : (some false) = some r := by rw [if_neg (show ¬ (false = true) by decide)] at H; exact H
                clear H
                have H := H1
                clear H1
                obtain rfl := Option.some.inj H
                go_wp2_with (first | ((with_reducible refine gate_callee (f := 20) rfl ?_); refine goesL_ (some 38) rfl rfl Try.func20 (by kernel_rfl) rfl #[.int .u8 a0, .int .u8 (Go.bits .xor .u8 a1 a2)] rfl (by (try simp only [List.map_toArray, List.map_cons, List.map_nil]); first | done | rfl | (simp only [List.length_drop, List.length_take]; rfl)) ?_; (with_reducible refine (aes_Times.calls kj5 a0 (Go.bits .xor .u8 a1 a2) t120 _ A15.out).mono ?_); rintro e w' ⟨rfl, ⟨nd, rfl⟩⟩; refine ⟨_, rfl, ?_⟩) | ((with_reducible refine gate_callee (f := 20) rfl ?_); refine goesL_ (some 41) rfl rfl Try.func20 (by kernel_rfl) rfl #[.int .u8 a0, .int .u8 a1] rfl (by (try simp only [List.map_toArray, List.map_cons, List.map_nil]); first | done | rfl | (simp only [List.length_drop, List.length_take]; rfl)) ?_; (with_reducible refine (aes_Times.calls kj5 a0 a1 t121 _ A16.out).mono ?_); rintro e w' ⟨rfl, ⟨nd, rfl⟩⟩; refine ⟨_, rfl, ?_⟩) | ((with_reducible refine gate_callee (f := 20) rfl ?_); refine goesL_ (some 44) rfl rfl Try.func20 (by kernel_rfl) rfl #[.int .u8 a0, .int .u8 a2] rfl (by (try simp only [List.map_toArray, List.map_cons, List.map_nil]); first | done | rfl | (simp only [List.length_drop, List.length_take]; rfl)) ?_; (with_reducible refine (aes_Times.calls kj5 a0 a2 t122 _ A17.out).mono ?_); rintro e w' ⟨rfl, ⟨nd, rfl⟩⟩; refine ⟨_, rfl, ?_⟩) | (go_at_call 20; (with_reducible refine (aes_Times.calls kj5 a0 1 t123 _ A19.out).mono ?_); rintro e w' ⟨rfl, ⟨nd, rfl⟩⟩) | ((with_reducible refine gate_callee (f := 20) rfl ?_); refine goesL_ (some 55) rfl rfl Try.func20 (by kernel_rfl) rfl #[.int .u8 a0, .int .u8 a1] rfl (by (try simp only [List.map_toArray, List.map_cons, List.map_nil]); first | done | rfl | (simp only [List.length_drop, List.length_take]; rfl)) ?_; (with_reducible refine (aes_Times.calls kj5 a0 a1 t124 _ A20.out).mono ?_); rintro e w' ⟨rfl, ⟨nd, rfl⟩⟩; refine ⟨_, rfl, ?_⟩))
                go_ret
                exact ⟨by first | rfl | (simp [errW_none, errW_some] <;> rfl) | (simp [*, errW_none, errW_some] <;> rfl), by repeat (first | (with_reducible first | exact HB.out | apply below_alloc | apply pw_below_drewN | apply below_drew1) | exact HB.out)⟩
            · exact absurd rfl c22
          · rw [if_neg c21] at H
            have c21b0 : (a0 == 0) = false := beq_eq_false_iff_ne.mpr c21
            have c21b1 : (a0 != 0) = true := bne_iff_ne.mpr c21
            by_cases c30 : true = true
            · clear c30
              have H1 : (if x8_5 = true then (if t123 = a0 then (if ((t124 == 0) == (a1 == 0)) = true then ((aes_Swap.f a0).bind fun t127 => ((aes_Swap.f a1).bind fun t128 => (some ((t127 == t128) == (a0 == a1))))) else (some false)) else (some false)) else (some false)) = some r := by first | (rw [if_pos rfl] at H; exact H) | (rw [if_pos trivial] at H; exact H) | simpa using H
              clear H
              have H := H1
              clear H1
              by_cases c31 : x8_5 = true
              · subst c31
                have H1 : (if t123 = a0 then (if ((t124 == 0) == (a1 == 0)) = true then ((aes_Swap.f a0).bind fun t127 => ((aes_Swap.f a1).bind fun t128 => (some ((t127 == t128) == (a0 == a1))))) else (some false)) else (some false)) = some r := by rw [if_pos rfl] at H; exact H
                clear H
                have H := H1
                clear H1
                by_cases c32 : t123 = a0
                · rw [if_pos c32] at H
                  have c32b0 : (t123 == a0) = true := beq_iff_eq.mpr c32
                  have c32b1 : (t123 != a0) = false := bne_eq_false_iff_eq.mpr c32
                  clear c32
                  by_cases c33 : ((t124 == 0) == (a1 == 0)) = true
                  · rw [if_pos c33] at H
                    have c33b0 : ((t124 == 0) == (a1 == 0)) = true := c33
                    (try (have c33b1 : decide ((t124 == 0) = (a1 == 0)) = true := by simpa using c33))
                    (try (have c33b2 : ((t124 == 0) == (a1 == 0)) = true := by simpa using c33))
                    clear c33
                    replace H := Option.bind_eq_some_iff.mp H
                    obtain ⟨t127, A340, H⟩ := H
                    replace H : ((aes_Swap.f a1).bind fun t128 => (some ((t127 == t128) == (a0 == a1)))) = some r := H
                    have A34 := Aside0.mk A340
                    clear A340
                    replace H := Option.bind_eq_some_iff.mp H
                    obtain ⟨t128, A350, H⟩ := H
                    replace H : (some ((t127 == t128) == (a0 == a1))) = some r := H
                    have A35 := Aside0.mk A350
                    clear A350
                    obtain rfl := Option.some.inj H
                    go_wp2_with (first | ((with_reducible refine gate_callee (f := 20) rfl ?_); refine goesL_ (some 38) rfl rfl Try.func20 (by kernel_rfl) rfl #[.int .u8 a0, .int .u8 (Go.bits .xor .u8 a1 a2)] rfl (by (try simp only [List.map_toArray, List.map_cons, List.map_nil]); first | done | rfl | (simp only [List.length_drop, List.length_take]; rfl)) ?_; (with_reducible refine (aes_Times.calls kj5 a0 (Go.bits .xor .u8 a1 a2) t120 _ A15.out).mono ?_); rintro e w' ⟨rfl, ⟨nd, rfl⟩⟩; refine ⟨_, rfl, ?_⟩) | ((with_reducible refine gate_callee (f := 20) rfl ?_); refine goesL_ (some 41) rfl rfl Try.func20 (by kernel_rfl) rfl #[.int .u8 a0, .int .u8 a1] rfl (by (try simp only [List.map_toArray, List.map_cons, List.map_nil]); first | done | rfl | (simp only [List.length_drop, List.length_take]; rfl)) ?_; (with_reducible refine (aes_Times.calls kj5 a0 a1 t121 _ A16.out).mono ?_); rintro e w' ⟨rfl, ⟨nd, rfl⟩⟩; refine ⟨_, rfl, ?_⟩) | ((with_reducible refine gate_callee (f := 20) rfl ?_); refine goesL_ (some 44) rfl rfl Try.func20 (by kernel_rfl) rfl #[.int .u8 a0, .int .u8 a2] rfl (by (try simp only [List.map_toArray, List.map_cons, List.map_nil]); first | done | rfl | (simp only [List.length_drop, List.length_take]; rfl)) ?_; (with_reducible refine (aes_Times.calls kj5 a0 a2 t122 _ A17.out).mono ?_); rintro e w' ⟨rfl, ⟨nd, rfl⟩⟩; refine ⟨_, rfl, ?_⟩) | (go_at_call 20; (with_reducible refine (aes_Times.calls kj5 a0 1 t123 _ A19.out).mono ?_); rintro e w' ⟨rfl, ⟨nd, rfl⟩⟩) | ((with_reducible refine gate_callee (f := 20) rfl ?_); refine goesL_ (some 55) rfl rfl Try.func20 (by kernel_rfl) rfl #[.int .u8 a0, .int .u8 a1] rfl (by (try simp only [List.map_toArray, List.map_cons, List.map_nil]); first | done | rfl | (simp only [List.length_drop, List.length_take]; rfl)) ?_; (with_reducible refine (aes_Times.calls kj5 a0 a1 t124 _ A20.out).mono ?_); rintro e w' ⟨rfl, ⟨nd, rfl⟩⟩; refine ⟨_, rfl, ?_⟩) | (go_at_call 22; (with_reducible refine (aes_Swap.calls a0 t127 _ A34.out).mono ?_); rintro e w36 ⟨rfl, hb⟩; have n0_ := Aside0.mk (below_step (by repeat (first | (with_reducible first | exact HB.out | apply below_alloc | apply pw_below_drewN | apply below_drew1) | exact HB.out)) hb); clear HB; have HB := n0_; clear n0_; (try clear hb); (try clear hb2); (try clear hk); (try clear hi)) | (go_at_call 22; (with_reducible refine (aes_Swap.calls a1 t128 _ A35.out).mono ?_); rintro e w37 ⟨rfl, hb⟩; have n0_ := Aside0.mk (below_step (by repeat (first | (with_reducible first | exact HB.out | apply below_alloc | apply pw_below_drewN | apply below_drew1) | exact HB.out)) hb); clear HB; have HB := n0_; clear n0_; (try clear hb); (try clear hb2); (try clear hk); (try clear hi)))
                    go_ret
                    exact ⟨by first | rfl | (simp [errW_none, errW_some] <;> rfl) | (simp [*, errW_none, errW_some] <;> rfl), by repeat (first | (with_reducible first | exact HB.out | apply below_alloc | apply pw_below_drewN | apply below_drew1) | exact HB.out)⟩
                  · rw [if_neg c33] at H
                    have c33b0 : ((t124 == 0) == (a1 == 0)) = false := by simpa using c33
                    (try (have c33b1 : decide ((t124 == 0) = (a1 == 0)) = false := by simpa using c33))
                    (try (have c33b2 : ((t124 == 0) == (a1 == 0)) = false := by simpa using c33))
                    (try (have c33b3 : ¬ ((t124 == 0) = (a1 == 0)) := by simpa using c33))
                    clear c33
                    obtain rfl := Option.some.inj H
                    go_wp2_with (first | ((with_reducible refine gate_callee (f := 20) rfl ?_); refine goesL_ (some 38) rfl rfl Try.func20 (by kernel_rfl) rfl #[.int .u8 a0, .int .u8 (Go.bits .xor .u8 a1 a2)] rfl (by (try simp only [List.map_toArray, List.map_cons, List.map_nil]); first | done | rfl | (simp only [List.length_drop, List.length_take]; rfl)) ?_; (with_reducible refine (aes_Times.calls kj5 a0 (Go.bits .xor .u8 a1 a2) t120 _ A15.out).mono ?_); rintro e w' ⟨rfl, ⟨nd, rfl⟩⟩; refine ⟨_, rfl, ?_⟩) | ((with_reducible refine gate_callee (f := 20) rfl ?_); refine goesL_ (some 41) rfl rfl Try.func20 (by kernel_rfl) rfl #[.int .u8 a0, .int .u8 a1] rfl (by (try simp only [List.map_toArray, List.map_cons, List.map_nil]); first | done | rfl | (simp only [List.length_drop, List.length_take]; rfl)) ?_; (with_reducible refine (aes_Times.calls kj5 a0 a1 t121 _ A16.out).mono ?_); rintro e w' ⟨rfl, ⟨nd, rfl⟩⟩; refine ⟨_, rfl, ?_⟩) | ((with_reducible refine gate_callee (f := 20) rfl ?_); refine goesL_ (some 44) rfl rfl Try.func20 (by kernel_rfl) rfl #[.int .u8 a0, .int .u8 a2] rfl (by (try simp only [List.map_toArray, List.map_cons, List.map_nil]); first | done | rfl | (simp only [List.length_drop, List.length_take]; rfl)) ?_; (with_reducible refine (aes_Times.calls kj5 a0 a2 t122 _ A17.out).mono ?_); rintro e w' ⟨rfl, ⟨nd, rfl⟩⟩; refine ⟨_, rfl, ?_⟩) | (go_at_call 20; (with_reducible refine (aes_Times.calls kj5 a0 1 t123 _ A19.out).mono ?_); rintro e w' ⟨rfl, ⟨nd, rfl⟩⟩) | ((with_reducible refine gate_callee (f := 20) rfl ?_); refine goesL_ (some 55) rfl rfl Try.func20 (by kernel_rfl) rfl #[.int .u8 a0, .int .u8 a1] rfl (by (try simp only [List.map_toArray, List.map_cons, List.map_nil]); first | done | rfl | (simp only [List.length_drop, List.length_take]; rfl)) ?_; (with_reducible refine (aes_Times.calls kj5 a0 a1 t124 _ A20.out).mono ?_); rintro e w' ⟨rfl, ⟨nd, rfl⟩⟩; refine ⟨_, rfl, ?_⟩))
                    go_ret
                    exact ⟨by first | rfl | (simp [errW_none, errW_some] <;> rfl) | (simp [*, errW_none, errW_some] <;> rfl), by repeat (first | (with_reducible first | exact HB.out | apply below_alloc | apply pw_below_drewN | apply below_drew1) | exact HB.out)⟩
                · rw [if_neg c32] at H
                  have c32b0 : (t123 == a0) = false := beq_eq_false_iff_ne.mpr c32
                  have c32b1 : (t123 != a0) = true := bne_iff_ne.mpr c32
                  obtain rfl := Option.some.inj H
                  go_wp2_with (first | ((with_reducible refine gate_callee (f := 20) rfl ?_); refine goesL_ (some 38) rfl rfl Try.func20 (by kernel_rfl) rfl #[.int .u8 a0, .int .u8 (Go.bits .xor .u8 a1 a2)] rfl (by (try simp only [List.map_toArray, List.map_cons, List.map_nil]); first | done | rfl | (simp only [List.length_drop, List.length_take]; rfl)) ?_; (with_reducible refine (aes_Times.calls kj5 a0 (Go.bits .xor .u8 a1 a2) t120 _ A15.out).mono ?_); rintro e w' ⟨rfl, ⟨nd, rfl⟩⟩; refine ⟨_, rfl, ?_⟩) | ((with_reducible refine gate_callee (f := 20) rfl ?_); refine goesL_ (some 41) rfl rfl Try.func20 (by kernel_rfl) rfl #[.int .u8 a0, .int .u8 a1] rfl (by (try simp only [List.map_toArray, List.map_cons, List.map_nil]); first | done | rfl | (simp only [List.length_drop, List.length_take]; rfl)) ?_; (with_reducible refine (aes_Times.calls kj5 a0 a1 t121 _ A16.out).mono ?_); rintro e w' ⟨rfl, ⟨nd, rfl⟩⟩; refine ⟨_, rfl, ?_⟩) | ((with_reducible refine gate_callee (f := 20) rfl ?_); refine goesL_ (some 44) rfl rfl Try.func20 (by kernel_rfl) rfl #[.int .u8 a0, .int .u8 a2] rfl (by (try simp only [List.map_toArray, List.map_cons, List.map_nil]); first | done | rfl | (simp only [List.length_drop, List.length_take]; rfl)) ?_; (with_reducible refine (aes_Times.calls kj5 a0 a2 t122 _ A17.out).mono ?_); rintro e w' ⟨rfl, ⟨nd, rfl⟩⟩; refine ⟨_, rfl, ?_⟩) | (go_at_call 20; (with_reducible refine (aes_Times.calls kj5 a0 1 t123 _ A19.out).mono ?_); rintro e w' ⟨rfl, ⟨nd, rfl⟩⟩) | ((with_reducible refine gate_callee (f := 20) rfl ?_); refine goesL_ (some 55) rfl rfl Try.func20 (by kernel_rfl) rfl #[.int .u8 a0, .int .u8 a1] rfl (by (try simp only [List.map_toArray, List.map_cons, List.map_nil]); first | done | rfl | (simp only [List.length_drop, List.length_take]; rfl)) ?_; (with_reducible refine (aes_Times.calls kj5 a0 a1 t124 _ A20.out).mono ?_); rintro e w' ⟨rfl, ⟨nd, rfl⟩⟩; refine ⟨_, rfl, ?_⟩))
                  go_ret
                  exact ⟨by first | rfl | (simp [errW_none, errW_some] <;> rfl) | (simp [*, errW_none, errW_some] <;> rfl), by repeat (first | (with_reducible first | exact HB.out | apply below_alloc | apply pw_below_drewN | apply below_drew1) | exact HB.out)⟩
              · replace c31 := Bool.eq_false_iff.mpr c31
                subst c31
                have H1 : (some false) = some r := by rw [if_neg (show ¬ (false = true) by decide)] at H; exact H
                clear H
                have H := H1
                clear H1
                obtain rfl := Option.some.inj H
                go_wp2_with (first | ((with_reducible refine gate_callee (f := 20) rfl ?_); refine goesL_ (some 38) rfl rfl Try.func20 (by kernel_rfl) rfl #[.int .u8 a0, .int .u8 (Go.bits .xor .u8 a1 a2)] rfl (by (try simp only [List.map_toArray, List.map_cons, List.map_nil]); first | done | rfl | (simp only [List.length_drop, List.length_take]; rfl)) ?_; (with_reducible refine (aes_Times.calls kj5 a0 (Go.bits .xor .u8 a1 a2) t120 _ A15.out).mono ?_); rintro e w' ⟨rfl, ⟨nd, rfl⟩⟩; refine ⟨_, rfl, ?_⟩) | ((with_reducible refine gate_callee (f := 20) rfl ?_); refine goesL_ (some 41) rfl rfl Try.func20 (by kernel_rfl) rfl #[.int .u8 a0, .int .u8 a1] rfl (by (try simp only [List.map_toArray, List.map_cons, List.map_nil]); first | done | rfl | (simp only [List.length_drop, List.length_take]; rfl)) ?_; (with_reducible refine (aes_Times.calls kj5 a0 a1 t121 _ A16.out).mono ?_); rintro e w' ⟨rfl, ⟨nd, rfl⟩⟩; refine ⟨_, rfl, ?_⟩) | ((with_reducible refine gate_callee (f := 20) rfl ?_); refine goesL_ (some 44) rfl rfl Try.func20 (by kernel_rfl) rfl #[.int .u8 a0, .int .u8 a2] rfl (by (try simp only [List.map_toArray, List.map_cons, List.map_nil]); first | done | rfl | (simp only [List.length_drop, List.length_take]; rfl)) ?_; (with_reducible refine (aes_Times.calls kj5 a0 a2 t122 _ A17.out).mono ?_); rintro e w' ⟨rfl, ⟨nd, rfl⟩⟩; refine ⟨_, rfl, ?_⟩) | (go_at_call 20; (with_reducible refine (aes_Times.calls kj5 a0 1 t123 _ A19.out).mono ?_); rintro e w' ⟨rfl, ⟨nd, rfl⟩⟩) | ((with_reducible refine gate_callee (f := 20) rfl ?_); refine goesL_ (some 55) rfl rfl Try.func20 (by kernel_rfl) rfl #[.int .u8 a0, .int .u8 a1] rfl (by (try simp only [List.map_toArray, List.map_cons, List.map_nil]); first | done | rfl | (simp only [List.length_drop, List.length_take]; rfl)) ?_; (with_reducible refine (aes_Times.calls kj5 a0 a1 t124 _ A20.out).mono ?_); rintro e w' ⟨rfl, ⟨nd, rfl⟩⟩; refine ⟨_, rfl, ?_⟩))
                go_ret
                exact ⟨by first | rfl | (simp [errW_none, errW_some] <;> rfl) | (simp [*, errW_none, errW_some] <;> rfl), by repeat (first | (with_reducible first | exact HB.out | apply below_alloc | apply pw_below_drewN | apply below_drew1) | exact HB.out)⟩
            · exact absurd rfl c30
        · rw [if_neg c18] at H
          have c18b0 : (t120 == (Go.bits .xor .u8 t121 t122)) = false := beq_eq_false_iff_ne.mpr c18
          have c18b1 : (t120 != (Go.bits .xor .u8 t121 t122)) = true := bne_iff_ne.mpr c18
          replace H := Option.bind_eq_some_iff.mp H
          obtain ⟨t129, A380, H⟩ := H
          replace H : (if a0 = 0 then (if true = true then (if x8_5 = true then (some false) else (some false)) else (some false)) else (if true = true then (if x8_5 = true then (some false) else (some false)) else (some false))) = some r := H
          have A38 := Aside0.mk A380
          clear A380
          by_cases c39 : a0 = 0
          · rw [if_pos c39] at H
            have c39b0 : (a0 == 0) = true := beq_iff_eq.mpr c39
            have c39b1 : (a0 != 0) = false := bne_eq_false_iff_eq.mpr c39
            clear c39
            by_cases c40 : true = true
            · clear c40
              have H1 : (if x8_5 = true then (some false) else (some false)) = some r := by first | (rw [if_pos rfl] at H; exact H) | (rw [if_pos trivial] at H; exact H) | simpa using H
              clear H
              have H := H1
              clear H1
              by_cases c41 : x8_5 = true
              · subst c41
                have H1 : (some false) = some r := by rw [if_pos rfl] at H; exact H
                clear H
                have H := H1
                clear H1
                obtain rfl := Option.some.inj H
                go_wp2_with (first | ((with_reducible refine gate_callee (f := 20) rfl ?_); refine goesL_ (some 38) rfl rfl Try.func20 (by kernel_rfl) rfl #[.int .u8 a0, .int .u8 (Go.bits .xor .u8 a1 a2)] rfl (by (try simp only [List.map_toArray, List.map_cons, List.map_nil]); first | done | rfl | (simp only [List.length_drop, List.length_take]; rfl)) ?_; (with_reducible refine (aes_Times.calls kj5 a0 (Go.bits .xor .u8 a1 a2) t120 _ A15.out).mono ?_); rintro e w' ⟨rfl, ⟨nd, rfl⟩⟩; refine ⟨_, rfl, ?_⟩) | ((with_reducible refine gate_callee (f := 20) rfl ?_); refine goesL_ (some 41) rfl rfl Try.func20 (by kernel_rfl) rfl #[.int .u8 a0, .int .u8 a1] rfl (by (try simp only [List.map_toArray, List.map_cons, List.map_nil]); first | done | rfl | (simp only [List.length_drop, List.length_take]; rfl)) ?_; (with_reducible refine (aes_Times.calls kj5 a0 a1 t121 _ A16.out).mono ?_); rintro e w' ⟨rfl, ⟨nd, rfl⟩⟩; refine ⟨_, rfl, ?_⟩) | ((with_reducible refine gate_callee (f := 20) rfl ?_); refine goesL_ (some 44) rfl rfl Try.func20 (by kernel_rfl) rfl #[.int .u8 a0, .int .u8 a2] rfl (by (try simp only [List.map_toArray, List.map_cons, List.map_nil]); first | done | rfl | (simp only [List.length_drop, List.length_take]; rfl)) ?_; (with_reducible refine (aes_Times.calls kj5 a0 a2 t122 _ A17.out).mono ?_); rintro e w' ⟨rfl, ⟨nd, rfl⟩⟩; refine ⟨_, rfl, ?_⟩) | ((with_reducible refine gate_callee (f := 20) rfl ?_); refine goesL_ (some 55) rfl rfl Try.func20 (by kernel_rfl) rfl #[.int .u8 a0, .int .u8 a1] rfl (by (try simp only [List.map_toArray, List.map_cons, List.map_nil]); first | done | rfl | (simp only [List.length_drop, List.length_take]; rfl)) ?_; (with_reducible refine (aes_Times.calls kj5 a0 a1 t129 _ A38.out).mono ?_); rintro e w' ⟨rfl, ⟨nd, rfl⟩⟩; refine ⟨_, rfl, ?_⟩))
                go_ret
                exact ⟨by first | rfl | (simp [errW_none, errW_some] <;> rfl) | (simp [*, errW_none, errW_some] <;> rfl), by repeat (first | (with_reducible first | exact HB.out | apply below_alloc | apply pw_below_drewN | apply below_drew1) | exact HB.out)⟩
              · replace c41 := Bool.eq_false_iff.mpr c41
                subst c41
                have H1 : (some false) = some r := by rw [if_neg (show ¬ (false = true) by decide)] at H; exact H
                clear H
                have H := H1
                clear H1
                obtain rfl := Option.some.inj H
                go_wp2_with (first | ((with_reducible refine gate_callee (f := 20) rfl ?_); refine goesL_ (some 38) rfl rfl Try.func20 (by kernel_rfl) rfl #[.int .u8 a0, .int .u8 (Go.bits .xor .u8 a1 a2)] rfl (by (try simp only [List.map_toArray, List.map_cons, List.map_nil]); first | done | rfl | (simp only [List.length_drop, List.length_take]; rfl)) ?_; (with_reducible refine (aes_Times.calls kj5 a0 (Go.bits .xor .u8 a1 a2) t120 _ A15.out).mono ?_); rintro e w' ⟨rfl, ⟨nd, rfl⟩⟩; refine ⟨_, rfl, ?_⟩) | ((with_reducible refine gate_callee (f := 20) rfl ?_); refine goesL_ (some 41) rfl rfl Try.func20 (by kernel_rfl) rfl #[.int .u8 a0, .int .u8 a1] rfl (by (try simp only [List.map_toArray, List.map_cons, List.map_nil]); first | done | rfl | (simp only [List.length_drop, List.length_take]; rfl)) ?_; (with_reducible refine (aes_Times.calls kj5 a0 a1 t121 _ A16.out).mono ?_); rintro e w' ⟨rfl, ⟨nd, rfl⟩⟩; refine ⟨_, rfl, ?_⟩) | ((with_reducible refine gate_callee (f := 20) rfl ?_); refine goesL_ (some 44) rfl rfl Try.func20 (by kernel_rfl) rfl #[.int .u8 a0, .int .u8 a2] rfl (by (try simp only [List.map_toArray, List.map_cons, List.map_nil]); first | done | rfl | (simp only [List.length_drop, List.length_take]; rfl)) ?_; (with_reducible refine (aes_Times.calls kj5 a0 a2 t122 _ A17.out).mono ?_); rintro e w' ⟨rfl, ⟨nd, rfl⟩⟩; refine ⟨_, rfl, ?_⟩) | ((with_reducible refine gate_callee (f := 20) rfl ?_); refine goesL_ (some 55) rfl rfl Try.func20 (by kernel_rfl) rfl #[.int .u8 a0, .int .u8 a1] rfl (by (try simp only [List.map_toArray, List.map_cons, List.map_nil]); first | done | rfl | (simp only [List.length_drop, List.length_take]; rfl)) ?_; (with_reducible refine (aes_Times.calls kj5 a0 a1 t129 _ A38.out).mono ?_); rintro e w' ⟨rfl, ⟨nd, rfl⟩⟩; refine ⟨_, rfl, ?_⟩))
                go_ret
                exact ⟨by first | rfl | (simp [errW_none, errW_some] <;> rfl) | (simp [*, errW_none, errW_some] <;> rfl), by repeat (first | (with_reducible first | exact HB.out | apply below_alloc | apply pw_below_drewN | apply below_drew1) | exact HB.out)⟩
            · exact absurd rfl c40
          · rw [if_neg c39] at H
            have c39b0 : (a0 == 0) = false := beq_eq_false_iff_ne.mpr c39
            have c39b1 : (a0 != 0) = true := bne_iff_ne.mpr c39
            by_cases c42 : true = true
            · clear c42
              have H1 : (if x8_5 = true then (some false) else (some false)) = some r := by first | (rw [if_pos rfl] at H; exact H) | (rw [if_pos trivial] at H; exact H) | simpa using H
              clear H
              have H := H1
              clear H1
              by_cases c43 : x8_5 = true
              · subst c43
                have H1 : (some false) = some r := by rw [if_pos rfl] at H; exact H
                clear H
                have H := H1
                clear H1
                obtain rfl := Option.some.inj H
                go_wp2_with (first | ((with_reducible refine gate_callee (f := 20) rfl ?_); refine goesL_ (some 38) rfl rfl Try.func20 (by kernel_rfl) rfl #[.int .u8 a0, .int .u8 (Go.bits .xor .u8 a1 a2)] rfl (by (try simp only [List.map_toArray, List.map_cons, List.map_nil]); first | done | rfl | (simp only [List.length_drop, List.length_take]; rfl)) ?_; (with_reducible refine (aes_Times.calls kj5 a0 (Go.bits .xor .u8 a1 a2) t120 _ A15.out).mono ?_); rintro e w' ⟨rfl, ⟨nd, rfl⟩⟩; refine ⟨_, rfl, ?_⟩) | ((with_reducible refine gate_callee (f := 20) rfl ?_); refine goesL_ (some 41) rfl rfl Try.func20 (by kernel_rfl) rfl #[.int .u8 a0, .int .u8 a1] rfl (by (try simp only [List.map_toArray, List.map_cons, List.map_nil]); first | done | rfl | (simp only [List.length_drop, List.length_take]; rfl)) ?_; (with_reducible refine (aes_Times.calls kj5 a0 a1 t121 _ A16.out).mono ?_); rintro e w' ⟨rfl, ⟨nd, rfl⟩⟩; refine ⟨_, rfl, ?_⟩) | ((with_reducible refine gate_callee (f := 20) rfl ?_); refine goesL_ (some 44) rfl rfl Try.func20 (by kernel_rfl) rfl #[.int .u8 a0, .int .u8 a2] rfl (by (try simp only [List.map_toArray, List.map_cons, List.map_nil]); first | done | rfl | (simp only [List.length_drop, List.length_take]; rfl)) ?_; (with_reducible refine (aes_Times.calls kj5 a0 a2 t122 _ A17.out).mono ?_); rintro e w' ⟨rfl, ⟨nd, rfl⟩⟩; refine ⟨_, rfl, ?_⟩) | ((with_reducible refine gate_callee (f := 20) rfl ?_); refine goesL_ (some 55) rfl rfl Try.func20 (by kernel_rfl) rfl #[.int .u8 a0, .int .u8 a1] rfl (by (try simp only [List.map_toArray, List.map_cons, List.map_nil]); first | done | rfl | (simp only [List.length_drop, List.length_take]; rfl)) ?_; (with_reducible refine (aes_Times.calls kj5 a0 a1 t129 _ A38.out).mono ?_); rintro e w' ⟨rfl, ⟨nd, rfl⟩⟩; refine ⟨_, rfl, ?_⟩))
                go_ret
                exact ⟨by first | rfl | (simp [errW_none, errW_some] <;> rfl) | (simp [*, errW_none, errW_some] <;> rfl), by repeat (first | (with_reducible first | exact HB.out | apply below_alloc | apply pw_below_drewN | apply below_drew1) | exact HB.out)⟩
              · replace c43 := Bool.eq_false_iff.mpr c43
                subst c43
                have H1 : (some false) = some r := by rw [if_neg (show ¬ (false = true) by decide)] at H; exact H
                clear H
                have H := H1
                clear H1
                obtain rfl := Option.some.inj H
                go_wp2_with (first | ((with_reducible refine gate_callee (f := 20) rfl ?_); refine goesL_ (some 38) rfl rfl Try.func20 (by kernel_rfl) rfl #[.int .u8 a0, .int .u8 (Go.bits .xor .u8 a1 a2)] rfl (by (try simp only [List.map_toArray, List.map_cons, List.map_nil]); first | done | rfl | (simp only [List.length_drop, List.length_take]; rfl)) ?_; (with_reducible refine (aes_Times.calls kj5 a0 (Go.bits .xor .u8 a1 a2) t120 _ A15.out).mono ?_); rintro e w' ⟨rfl, ⟨nd, rfl⟩⟩; refine ⟨_, rfl, ?_⟩) | ((with_reducible refine gate_callee (f := 20) rfl ?_); refine goesL_ (some 41) rfl rfl Try.func20 (by kernel_rfl) rfl #[.int .u8 a0, .int .u8 a1] rfl (by (try simp only [List.map_toArray, List.map_cons, List.map_nil]); first | done | rfl | (simp only [List.length_drop, List.length_take]; rfl)) ?_; (with_reducible refine (aes_Times.calls kj5 a0 a1 t121 _ A16.out).mono ?_); rintro e w' ⟨rfl, ⟨nd, rfl⟩⟩; refine ⟨_, rfl, ?_⟩) | ((with_reducible refine gate_callee (f := 20) rfl ?_); refine goesL_ (some 44) rfl rfl Try.func20 (by kernel_rfl) rfl #[.int .u8 a0, .int .u8 a2] rfl (by (try simp only [List.map_toArray, List.map_cons, List.map_nil]); first | done | rfl | (simp only [List.length_drop, List.length_take]; rfl)) ?_; (with_reducible refine (aes_Times.calls kj5 a0 a2 t122 _ A17.out).mono ?_); rintro e w' ⟨rfl, ⟨nd, rfl⟩⟩; refine ⟨_, rfl, ?_⟩) | ((with_reducible refine gate_callee (f := 20) rfl ?_); refine goesL_ (some 55) rfl rfl Try.func20 (by kernel_rfl) rfl #[.int .u8 a0, .int .u8 a1] rfl (by (try simp only [List.map_toArray, List.map_cons, List.map_nil]); first | done | rfl | (simp only [List.length_drop, List.length_take]; rfl)) ?_; (with_reducible refine (aes_Times.calls kj5 a0 a1 t129 _ A38.out).mono ?_); rintro e w' ⟨rfl, ⟨nd, rfl⟩⟩; refine ⟨_, rfl, ?_⟩))
                go_ret
                exact ⟨by first | rfl | (simp [errW_none, errW_some] <;> rfl) | (simp [*, errW_none, errW_some] <;> rfl), by repeat (first | (with_reducible first | exact HB.out | apply below_alloc | apply pw_below_drewN | apply below_drew1) | exact HB.out)⟩
            · exact absurd rfl c42
  · replace c5 := Bool.eq_false_iff.mpr c5
    subst c5
    have H1 : (some false) = some r := by rw [if_neg (show ¬ (false = true) by decide)] at H; exact H
    clear H
    have H := H1
    clear H1
    obtain rfl := Option.some.inj H
    go_enter Try.func4, Try.ntmps4
    go_wp2_with (first | ((with_reducible refine gate_callee (f := 19) rfl ?_); refine goesL_ (some 11) rfl rfl Try.func19 (by kernel_rfl) rfl #[] rfl (by (try simp only [List.map_toArray, List.map_cons, List.map_nil]); first | done | rfl | (simp only [List.length_drop, List.length_take]; rfl)) ?_; (with_reducible refine (legatelaw04_works.calls k  false _ A4.out).mono ?_); rintro e w44 ⟨rfl, hb⟩; refine ⟨_, rfl, ?_⟩; have n0_ := Aside0.mk (below_step (by repeat (first | (with_reducible first | exact HB.out | apply below_alloc | apply pw_below_drewN | apply below_drew1) | exact HB.out)) hb); clear HB; have HB := n0_; clear n0_; (try clear hb); (try clear hb2); (try clear hk); (try clear hi)))
    go_ret
    exact ⟨by first | rfl | (simp [errW_none, errW_some] <;> rfl) | (simp [*, errW_none, errW_some] <;> rfl), by repeat (first | (with_reducible first | exact HB.out | apply below_alloc | apply pw_below_drewN | apply below_drew1) | exact HB.out)⟩

/-- THE ONE PURE STATEMENT of legatelaw04_AesField: yours. -/
def legatelaw04_AesField.Pure : Prop := ∀ (a0 : Int) (a1 : Int) (a2 : Int), (Lit.int .u8 a0).wf = true → (Lit.int .u8 a1).wf = true → (Lit.int .u8 a2).wf = true → ∃ k, legatelaw04_AesField.f k a0 a1 a2 = some true
theorem legatelaw04_AesField.walk (P : legatelaw04_AesField.Pure) (a0 : Int) (a1 : Int) (a2 : Int) (w : World) (w0 : (Lit.int .u8 a0).wf = true) (w1 : (Lit.int .u8 a1).wf = true) (w2 : (Lit.int .u8 a2).wf = true) :
    Calls Try.prog 4 #[.int .u8 a0, .int .u8 a1, .int .u8 a2] w fun e w' => e = .returned (.bool true) ∧ Below w.heap.size w w' := by
  obtain ⟨k, h⟩ := P a0 a1 a2 w0 w1 w2
  refine (legatelaw04_AesField.calls k a0 a1 a2 true w h).mono ?_
  rintro e w' ⟨rfl, hd⟩
  exact ⟨rfl, hd⟩

/-! ### legateref04_Table: function 24 -/
def legateref04_Table.l0 : Nat → List Int → Int → Option (List Int)
  | 0, _, _ => none
  | k + 1, x1, x2 => if x2 < 256 then ((legateref04_Swap.f k ((x2) % 256)).bind fun t130 => (if x1.length < 140737488355328 then (legateref04_Table.l0 k (x1 ++ [t130]) (wrap64 (x2 + 1))) else (none))) else (some x1)
def legateref04_Table.f (k : Nat)  : Option (List Int) := legateref04_Table.l0 k ([] : List Int) 0
theorem legateref04_Table.mono_l : ∀ k, (∀ y0 y1, LeO (legateref04_Table.l0 k y0 y1) (legateref04_Table.l0 (k + 1) y0 y1))
  | 0 => fun _ _ r h => by simp [legateref04_Table.l0] at h
  | k + 1 => by
    have ih0 := legateref04_Table.mono_l k
    · intro y0 y1
      unfold legateref04_Table.l0
      repeat' first
      | (with_reducible exact ih0 _ _)
      | (with_reducible exact legateref04_Swap.mono _ _)
      | (with_reducible exact LeO.refl _)
      | (with_reducible exact LeO.none _)
      | (with_reducible refine LeO.ite ?_ ?_)
      | (with_reducible refine LeO.bind ?_ (fun _ => ?_))
      | exact ih0 _ _
      | exact legateref04_Swap.mono _ _
      | exact LeO.none _
      | refine LeO.ite ?_ ?_
      | refine LeO.bind ?_ (fun _ => ?_)
theorem legateref04_Table.mono : ∀ k, LeO (legateref04_Table.f k ) (legateref04_Table.f (k + 1) ) := by
  intro  k
  have ih0 := legateref04_Table.mono_l k
  unfold legateref04_Table.f
  repeat' first
      | (with_reducible exact ih0 _ _)
      | (with_reducible exact legateref04_Swap.mono _ _)
      | (with_reducible exact LeO.refl _)
      | (with_reducible exact LeO.none _)
      | (with_reducible refine LeO.ite ?_ ?_)
      | (with_reducible refine LeO.bind ?_ (fun _ => ?_))
      | exact ih0 _ _
      | exact legateref04_Swap.mono _ _
      | exact LeO.none _
      | refine LeO.ite ?_ ?_
      | refine LeO.bind ?_ (fun _ => ?_)
set_option maxHeartbeats 8000000 in
set_option maxRecDepth 100000 in
theorem legateref04_Table.calls (k : Nat)  (r : List Int) (w : World) (h : legateref04_Table.f k  = some r) :
    Calls Try.prog 24 #[] w fun e w' => ∃ v0_ : Value, e = .returned (v0_) ∧ Kd.R (Kd.int .u8) 5 w' w.heap.size (fun _ => True) v0_ r ∧ Below w.heap.size w w' := by
  have HB := Aside0.mk (Below.refl w.heap.size w)
  have H : (legateref04_Table.l0 k ([] : List Int) 0) = some r := h
  clear h
  have H' := Aside0.mk H
  clear H
  go_enter Try.func24, Try.ntmps24
  go_wp2
  go_loopg [1, 2] k (fun kq v1 v2 w' => ∃ (x1_1 : List Int) (x2_1 : Int), v2 = .int .i64 x2_1 ∧ Aside0 (legateref04_Table.l0 kq x1_1 x2_1 = some r) ∧ Aside0 (kq ≤ k) ∧ Aside0 (Kd.R (Kd.int .u8) 5 w' w.heap.size (fun _ => True) v1 x1_1) ∧ Aside0 (Below w.heap.size w w'))
  case atStart => exact ⟨(([] : List Int)), (0), (by first | rfl | (simp; done) | (simp [*]; done)), H', ⟨Nat.le_refl _⟩, ⟨by first | exact Kd.R_nil _ _ _ _ _ | exact Kd.N_nil _ _ _ _ _ | exact Kd.V_nil _ _ _ _ _ | exact Kd.Q_nil _ _ _ _ _ | exact Kd.S_nil _ _ _ _ _⟩, ⟨by repeat (first | (with_reducible first | exact HB.out | apply below_alloc | apply pw_below_drewN | apply below_drew1) | exact HB.out)⟩⟩
  case round =>
    clear H'
    obtain ⟨x1_1, x2_1, rfl, HA, HK1, HO_1, HB⟩ := hrel
    cases gk with
    | zero => exact absurd HA.out (by simp [legateref04_Table.l0])
    | succ k1 =>
      have H := HA.out
      clear HA
      simp only [legateref04_Table.l0] at H
      by_cases c1 : x2_1 < 256
      · rw [if_pos c1] at H
        have c1b0 : decide (x2_1 < 256) = true := decide_eq_true c1
        clear c1
        replace H := Option.bind_eq_some_iff.mp H
        obtain ⟨t130, A20, H⟩ := H
        replace H : (if x1_1.length < 140737488355328 then (legateref04_Table.l0 k1 (x1_1 ++ [t130]) (wrap64 (x2_1 + 1))) else (none)) = some r := H
        have A2 := Aside0.mk A20
        clear A20
        by_cases c3 : x1_1.length < 140737488355328
        · rw [if_pos c3] at H
          have LMc3 := Aside0.mk c3
          clear c3
          obtain ⟨y131, hy131⟩ : ∃ y_ : List Int, y_ = (x1_1 ++ [t130]) := ⟨_, rfl⟩
          replace H : (legateref04_Table.l0 k1 y131 (wrap64 (x2_1 + 1))) = some r := by first | (rw [hy131]; with_reducible exact H) | (have H2_ := (Option.bind_some _ _).symm.trans H; rw [hy131]; with_reducible exact H2_) | (have H2_ := (Option.bind_some _ _).symm.trans H; with_reducible exact H2_) | with_reducible exact H | (rw [hy131]; exact H) | exact H
          have Ny131 := Aside0.mk hy131
          clear hy131
          have H' := Aside0.mk H
          clear H
          go_wp2_with (first | ((with_reducible refine gate_callee (f := 23) rfl ?_); refine goesL_ (some 10) rfl rfl Try.func23 (by kernel_rfl) rfl #[.int .u8 ((x2_1) % 256)] rfl (by (try simp only [List.map_toArray, List.map_cons, List.map_nil]); first | done | rfl | (simp only [List.length_drop, List.length_take]; rfl)) ?_; (with_reducible refine (legateref04_Swap.calls k1 ((x2_1) % 256) t130 _ A2.out).mono ?_); rintro e w' ⟨rfl, ⟨nd, rfl⟩⟩; refine ⟨_, rfl, ?_⟩) | ((with_reducible refine gate_builtin (b := .append) (xs := #[.tmp 7, .tmp 11]) rfl ?_); at_builtin; refine Kd.R_append (Kd.int .u8) (w0 := w) w.heap.size rfl (.tmp 7) (.tmp 11) 27 5 (.int .u8 0) 1 rfl Try.underlying27 info5 rfl (by decide) (by omega) u1 x1_1 t130 [.int .u8 t130] (fun _ => True) (fun _ => False) rfl rfl ?aP (fun _ hk => hk.elim) ?aF ?aO ?aB ?aS ?aL ?_; (case aP => exact rfl); (case aB => exact (by repeat (first | (with_reducible first | exact HB.out | apply below_alloc | apply pw_below_drewN | apply below_drew1) | exact HB.out))); (case aF => exact (fun _ _ => trivial)); (case aO => exact (by (with_reducible repeat (first | apply Kd.R_alloc | apply Kd.R_drewN | apply Kd.R_drew)); exact HO_1.out)); (case aS => exact (below_size (by repeat (first | (with_reducible first | exact HB.out | apply below_alloc | apply pw_below_drewN | apply below_drew1) | exact HB.out)))); (case aL => have := LMc3.out; omega); intro v132 w4 ho hb hg hat; rw [← Ny131.out] at ho; have n0_ := Aside0.mk (hb); have n1_ := Aside0.mk (ho); clear HB; clear HO_1; have HB := n0_; have HO133 := n1_; clear n0_ n1_; clear ho hb hg hat))
          go_roundg k1
          case measure => have := HK1.out; omega
          case rel => exact ⟨(y131), (wrap64 (x2_1 + 1)), (by first | rfl | (simp; done) | (simp [*]; done)), H', ⟨by have := HK1.out; omega⟩, ⟨by (with_reducible repeat (first | apply Kd.R_alloc | apply Kd.R_drewN | apply Kd.R_drew)); exact HO133.out⟩, ⟨by repeat (first | (with_reducible first | exact HB.out | apply below_alloc | apply pw_below_drewN | apply below_drew1) | exact HB.out)⟩⟩
        · rw [if_neg c3] at H
          exact absurd H (by simp)
      · rw [if_neg c1] at H
        have c1b0 : decide (x2_1 < 256) = false := decide_eq_false c1
        clear c1
        obtain rfl := Option.some.inj H
        go_wp2
        go_ret
        exact ⟨_, by first | rfl | (simp [errW_none, errW_some] <;> rfl) | (simp [*, errW_none, errW_some] <;> rfl), by (with_reducible repeat (first | apply Kd.R_alloc | apply Kd.R_drewN | apply Kd.R_drew)); exact HO_1.out, by repeat (first | (with_reducible first | exact HB.out | apply below_alloc | apply pw_below_drewN | apply below_drew1) | exact HB.out)⟩

end Go.Proofs.Ytkgijkfcmbpgpaa.PAll
