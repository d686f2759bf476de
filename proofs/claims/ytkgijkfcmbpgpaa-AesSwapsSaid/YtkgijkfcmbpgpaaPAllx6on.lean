-- written by wip/printx.py, a program of this session, over the kit's print
import Derived.Test.YtkgijkfcmbpgpaaPAllx0
import Derived.Test.YtkgijkfcmbpgpaaPAllx1
import Derived.Test.YtkgijkfcmbpgpaaPAllx4
namespace Go.Proofs.Ytkgijkfcmbpgpaa.PAll
open Go.RowKit Go.Proofs.YtkgijkfcmbpgpaaW.PrintWords Go.Proofs.YtkgijkfcmbpgpaaW.PrintLast Go.Proofs.YtkgijkfcmbpgpaaW.PrintMore
open Go.Proofs.Ytkgijkfcmbpgpaa.Giv
attribute [local go_sem] max2_int min2_int max_two min_two max_three min_three max_four min_four   -- for this text's walks alone
set_option linter.unusedVariables false
set_option linter.unusedSimpArgs false

/-! ### legatelaw04_AesSwaps: function 8 -/
mutual
def legatelaw04_AesSwaps.j0 : Nat → Int → Bool → Int → Bool → Option (Bool)
  | 0, _, _, _, _ => none
  | k + 1, x1, x5, x6, x26 => if x26 = true then (some x5) else (legatelaw04_AesSwaps.l0 k x1 x5 x6 (wrap64 (x1)) 1)
def legatelaw04_AesSwaps.l0 : Nat → Int → Bool → Int → Int → Int → Option (Bool)
  | 0, _, _, _, _, _ => none
  | k + 1, x1, x5, x6, x7, x8 => if x8 ≤ 4 then (if 0 ≤ x8 then (if 0 ≤ (wrap64 (8 - x8)) then (legatelaw04_AesSwaps.l0 k x1 x5 x6 (Go.bits .xor .i64 x7 (Int.tmod (Go.bits .or .i64 (shl .i64 (wrap64 (x1)) x8) (shr .i64 (wrap64 (x1)) (wrap64 (8 - x8)))) 256)) (wrap64 (x8 + 1))) else (none)) else (none)) else (if x5 = true then (some ((wrap64 (x6)) == (Go.bits .xor .i64 x7 99))) else (some false))
end
def legatelaw04_AesSwaps.f (k : Nat) (a0 : Int) (a1 : Int) : Option (Bool) := (legatelaw04_works.f k).bind fun t200 => (if t200 = true then ((aes_Swap.f a0).bind fun t201 => ((aes_Times.f k a0 a1).bind fun t202 => (if t202 = 1 then (legatelaw04_AesSwaps.j0 k a1 t200 t201 false) else (if a0 = 0 then (legatelaw04_AesSwaps.j0 k a1 t200 t201 (!(a1 == 0))) else (legatelaw04_AesSwaps.j0 k a1 t200 t201 (!false)))))) else (some false))
theorem legatelaw04_AesSwaps.mono_l : ∀ k, (∀ y0 y1 y2 y3, LeO (legatelaw04_AesSwaps.j0 k y0 y1 y2 y3) (legatelaw04_AesSwaps.j0 (k + 1) y0 y1 y2 y3)) ∧ (∀ y0 y1 y2 y3 y4, LeO (legatelaw04_AesSwaps.l0 k y0 y1 y2 y3 y4) (legatelaw04_AesSwaps.l0 (k + 1) y0 y1 y2 y3 y4))
  | 0 => ⟨fun _ _ _ _ r h => by simp [legatelaw04_AesSwaps.j0] at h, fun _ _ _ _ _ r h => by simp [legatelaw04_AesSwaps.l0] at h⟩
  | k + 1 => by
    obtain ⟨ih0, ih1⟩ := legatelaw04_AesSwaps.mono_l k
    refine ⟨?_, ?_⟩
    · intro y0 y1 y2 y3
      unfold legatelaw04_AesSwaps.j0
      repeat' first
      | (with_reducible exact ih0 _ _ _ _)
      | (with_reducible exact ih1 _ _ _ _ _)
      | (with_reducible exact aes_Times.mono _ _ _)
      | (with_reducible exact legatelaw04_works.mono _)
      | (with_reducible exact LeO.refl _)
      | (with_reducible exact LeO.none _)
      | (with_reducible refine LeO.ite ?_ ?_)
      | (with_reducible refine LeO.bind ?_ (fun _ => ?_))
      | exact ih0 _ _ _ _
      | exact ih1 _ _ _ _ _
      | exact aes_Times.mono _ _ _
      | exact legatelaw04_works.mono _
      | exact LeO.none _
      | refine LeO.ite ?_ ?_
      | refine LeO.bind ?_ (fun _ => ?_)
    · intro y0 y1 y2 y3 y4
      unfold legatelaw04_AesSwaps.l0
      repeat' first
      | (with_reducible exact ih0 _ _ _ _)
      | (with_reducible exact ih1 _ _ _ _ _)
      | (with_reducible exact aes_Times.mono _ _ _)
      | (with_reducible exact legatelaw04_works.mono _)
      | (with_reducible exact LeO.refl _)
      | (with_reducible exact LeO.none _)
      | (with_reducible refine LeO.ite ?_ ?_)
      | (with_reducible refine LeO.bind ?_ (fun _ => ?_))
      | exact ih0 _ _ _ _
      | exact ih1 _ _ _ _ _
      | exact aes_Times.mono _ _ _
      | exact legatelaw04_works.mono _
      | exact LeO.none _
      | refine LeO.ite ?_ ?_
      | refine LeO.bind ?_ (fun _ => ?_)
theorem legatelaw04_AesSwaps.mono : ∀ a0 a1 k, LeO (legatelaw04_AesSwaps.f k a0 a1) (legatelaw04_AesSwaps.f (k + 1) a0 a1) := by
  intro a0 a1 k
  obtain ⟨ih0, ih1⟩ := legatelaw04_AesSwaps.mono_l k
  unfold legatelaw04_AesSwaps.f
  repeat' first
      | (with_reducible exact ih0 _ _ _ _)
      | (with_reducible exact ih1 _ _ _ _ _)
      | (with_reducible exact aes_Times.mono _ _ _)
      | (with_reducible exact legatelaw04_works.mono _)
      | (with_reducible exact LeO.refl _)
      | (with_reducible exact LeO.none _)
      | (with_reducible refine LeO.ite ?_ ?_)
      | (with_reducible refine LeO.bind ?_ (fun _ => ?_))
      | exact ih0 _ _ _ _
      | exact ih1 _ _ _ _ _
      | exact aes_Times.mono _ _ _
      | exact legatelaw04_works.mono _
      | exact LeO.none _
      | refine LeO.ite ?_ ?_
      | refine LeO.bind ?_ (fun _ => ?_)
set_option maxHeartbeats 8000000 in
set_option maxRecDepth 100000 in
theorem legatelaw04_AesSwaps.calls (k : Nat) (a0 : Int) (a1 : Int) (r : Bool) (w : World) (h : legatelaw04_AesSwaps.f k a0 a1 = some r) :
    Calls Try.prog 8 #[.int .u8 a0, .int .u8 a1] w fun e w' => e = .returned (.bool r) ∧ Below w.heap.size w w' := by
  have HB := Aside0.mk (Below.refl w.heap.size w)
  have H : ((legatelaw04_works.f k).bind fun t200 => (if t200 = true then ((aes_Swap.f a0).bind fun t201 => ((aes_Times.f k a0 a1).bind fun t202 => (if t202 = 1 then (legatelaw04_AesSwaps.j0 k a1 t200 t201 false) else (if a0 = 0 then (legatelaw04_AesSwaps.j0 k a1 t200 t201 (!(a1 == 0))) else (legatelaw04_AesSwaps.j0 k a1 t200 t201 (!false)))))) else (some false))) = some r := h
  clear h
  replace H := Option.bind_eq_some_iff.mp H
  obtain ⟨t200, A30, H⟩ := H
  replace H : (if t200 = true then ((aes_Swap.f a0).bind fun t201 => ((aes_Times.f k a0 a1).bind fun t202 => (if t202 = 1 then (legatelaw04_AesSwaps.j0 k a1 t200 t201 false) else (if a0 = 0 then (legatelaw04_AesSwaps.j0 k a1 t200 t201 (!(a1 == 0))) else (legatelaw04_AesSwaps.j0 k a1 t200 t201 (!false)))))) else (some false)) = some r := H
  have A3 := Aside0.mk A30
  clear A30
  by_cases c4 : t200 = true
  · subst c4
    have H1 : ((aes_Swap.f a0).bind fun t201 => ((aes_Times.f k a0 a1).bind fun t202 => (if t202 = 1 then (legatelaw04_AesSwaps.j0 k a1 true t201 false) else (if a0 = 0 then (legatelaw04_AesSwaps.j0 k a1 true t201 (!(a1 == 0))) else (legatelaw04_AesSwaps.j0 k a1 true t201 (!false)))))) = some r := by rw [if_pos rfl] at H; exact H
    clear H
    have H := H1
    clear H1
    replace H := Option.bind_eq_some_iff.mp H
    obtain ⟨t201, A50, H⟩ := H
    replace H : ((aes_Times.f k a0 a1).bind fun t202 => (if t202 = 1 then (legatelaw04_AesSwaps.j0 k a1 true t201 false) else (if a0 = 0 then (legatelaw04_AesSwaps.j0 k a1 true t201 (!(a1 == 0))) else (legatelaw04_AesSwaps.j0 k a1 true t201 (!false))))) = some r := H
    have A5 := Aside0.mk A50
    clear A50
    have HC6 := Aside0.mk H
    clear H
    go_enter Try.func8, Try.ntmps8
    go_upto_region 5 with (first | (go_at_call 19; (with_reducible refine (legatelaw04_works.calls k  true _ A3.out).mono ?_); rintro e w7 ⟨rfl, hb⟩; have n0_ := Aside0.mk (below_step (by repeat (first | (with_reducible first | exact HB.out | apply below_alloc | apply pw_below_drewN | apply below_drew1) | exact HB.out)) hb); clear HB; have HB := n0_; clear n0_; (try clear hb); (try clear hb2); (try clear hk); (try clear hi)) | (go_at_call 22; (with_reducible refine (aes_Swap.calls a0 t201 _ A5.out).mono ?_); rintro e w8 ⟨rfl, hb⟩; have n0_ := Aside0.mk (below_step (by repeat (first | (with_reducible first | exact HB.out | apply below_alloc | apply pw_below_drewN | apply below_drew1) | exact HB.out)) hb); clear HB; have HB := n0_; clear n0_; (try clear hb); (try clear hb2); (try clear hk); (try clear hi)))
    repeat (go_quiet (first | (go_at_call 19; (with_reducible refine (legatelaw04_works.calls k  true _ A3.out).mono ?_); rintro e w7 ⟨rfl, hb⟩; have n0_ := Aside0.mk (below_step (by repeat (first | (with_reducible first | exact HB.out | apply below_alloc | apply pw_below_drewN | apply below_drew1) | exact HB.out)) hb); clear HB; have HB := n0_; clear n0_; (try clear hb); (try clear hb2); (try clear hk); (try clear hi)) | (go_at_call 22; (with_reducible refine (aes_Swap.calls a0 t201 _ A5.out).mono ?_); rintro e w8 ⟨rfl, hb⟩; have n0_ := Aside0.mk (below_step (by repeat (first | (with_reducible first | exact HB.out | apply below_alloc | apply pw_below_drewN | apply below_drew1) | exact HB.out)) hb); clear HB; have HB := n0_; clear n0_; (try clear hb); (try clear hb2); (try clear hk); (try clear hi))); go_upto_region 5 with (first | (go_at_call 19; (with_reducible refine (legatelaw04_works.calls k  true _ A3.out).mono ?_); rintro e w7 ⟨rfl, hb⟩; have n0_ := Aside0.mk (below_step (by repeat (first | (with_reducible first | exact HB.out | apply below_alloc | apply pw_below_drewN | apply below_drew1) | exact HB.out)) hb); clear HB; have HB := n0_; clear n0_; (try clear hb); (try clear hb2); (try clear hk); (try clear hi)) | (go_at_call 22; (with_reducible refine (aes_Swap.calls a0 t201 _ A5.out).mono ?_); rintro e w8 ⟨rfl, hb⟩; have n0_ := Aside0.mk (below_step (by repeat (first | (with_reducible first | exact HB.out | apply below_alloc | apply pw_below_drewN | apply below_drew1) | exact HB.out)) hb); clear HB; have HB := n0_; clear n0_; (try clear hb); (try clear hb2); (try clear hk); (try clear hi))))
    (try simp only [Act.put, List.setIfInBounds_toArray, List.set_cons_zero, List.set_cons_succ])
    go_cut [26] (fun v26 wc => ∃ (kq : Nat) (x26_5 : Bool), v26 = .bool x26_5 ∧ Aside0 (legatelaw04_AesSwaps.j0 kq a1 true t201 x26_5 = some r) ∧ Aside0 (kq ≤ k) ∧ Aside0 (Below w.heap.size w wc))
    case first =>
      have H := HC6.out
      clear HC6
      replace H := Option.bind_eq_some_iff.mp H
      obtain ⟨t202, A90, H⟩ := H
      replace H : (if t202 = 1 then (legatelaw04_AesSwaps.j0 k a1 true t201 false) else (if a0 = 0 then (legatelaw04_AesSwaps.j0 k a1 true t201 (!(a1 == 0))) else (legatelaw04_AesSwaps.j0 k a1 true t201 (!false)))) = some r := H
      have A9 := Aside0.mk A90
      clear A90
      by_cases c10 : t202 = 1
      · rw [if_pos c10] at H
        have c10b0 : (t202 == 1) = true := beq_iff_eq.mpr c10
        have c10b1 : (t202 != 1) = false := bne_eq_false_iff_eq.mpr c10
        clear c10
        (first | rw [c10b0] | (simp only [i64_w, i32_w]; rw [c10b0]) | skip)
        have H' := Aside0.mk H
        clear H
        go_wp2_with (first | (go_at_call 20; (with_reducible refine (aes_Times.calls k a0 a1 t202 _ A9.out).mono ?_); rintro e w' ⟨rfl, ⟨nd, rfl⟩⟩; (try first | exact ⟨rfl, _, World.drewN_drewN _ _ _⟩ | exact ⟨rfl, _, Eq.trans (World.drewN_drewN _ _ _) (congrArg (World.drewN _) (Nat.add_assoc _ _ _))⟩)))
        repeat (go_quiet (first | (go_at_call 20; (with_reducible refine (aes_Times.calls k a0 a1 t202 _ A9.out).mono ?_); rintro e w' ⟨rfl, ⟨nd, rfl⟩⟩; (try first | exact ⟨rfl, _, World.drewN_drewN _ _ _⟩ | exact ⟨rfl, _, Eq.trans (World.drewN_drewN _ _ _) (congrArg (World.drewN _) (Nat.add_assoc _ _ _))⟩))); try go_wp2_with (first | (go_at_call 20; (with_reducible refine (aes_Times.calls k a0 a1 t202 _ A9.out).mono ?_); rintro e w' ⟨rfl, ⟨nd, rfl⟩⟩; (try first | exact ⟨rfl, _, World.drewN_drewN _ _ _⟩ | exact ⟨rfl, _, Eq.trans (World.drewN_drewN _ _ _) (congrArg (World.drewN _) (Nat.add_assoc _ _ _))⟩))))
        go_meet
        case rel => exact ⟨_, (false), (by first | rfl | (simp; done) | (simp [*]; done)), H', ⟨by first | omega | exact Nat.le_refl _⟩, ⟨by repeat (first | (with_reducible first | exact HB.out | apply below_alloc | apply pw_below_drewN | apply below_drew1) | exact HB.out)⟩⟩
      · rw [if_neg c10] at H
        have c10b0 : (t202 == 1) = false := beq_eq_false_iff_ne.mpr c10
        have c10b1 : (t202 != 1) = true := bne_iff_ne.mpr c10
        (first | rw [c10b0] | (simp only [i64_w, i32_w]; rw [c10b0]) | skip)
        by_cases c11 : a0 = 0
        · rw [if_pos c11] at H
          have c11b0 : (a0 == 0) = true := beq_iff_eq.mpr c11
          have c11b1 : (a0 != 0) = false := bne_eq_false_iff_eq.mpr c11
          clear c11
          have H' := Aside0.mk H
          clear H
          go_wp2_with (first | (go_at_call 20; (with_reducible refine (aes_Times.calls k a0 a1 t202 _ A9.out).mono ?_); rintro e w' ⟨rfl, ⟨nd, rfl⟩⟩; (try first | exact ⟨rfl, _, World.drewN_drewN _ _ _⟩ | exact ⟨rfl, _, Eq.trans (World.drewN_drewN _ _ _) (congrArg (World.drewN _) (Nat.add_assoc _ _ _))⟩)))
          repeat (go_quiet (first | (go_at_call 20; (with_reducible refine (aes_Times.calls k a0 a1 t202 _ A9.out).mono ?_); rintro e w' ⟨rfl, ⟨nd, rfl⟩⟩; (try first | exact ⟨rfl, _, World.drewN_drewN _ _ _⟩ | exact ⟨rfl, _, Eq.trans (World.drewN_drewN _ _ _) (congrArg (World.drewN _) (Nat.add_assoc _ _ _))⟩))); try go_wp2_with (first | (go_at_call 20; (with_reducible refine (aes_Times.calls k a0 a1 t202 _ A9.out).mono ?_); rintro e w' ⟨rfl, ⟨nd, rfl⟩⟩; (try first | exact ⟨rfl, _, World.drewN_drewN _ _ _⟩ | exact ⟨rfl, _, Eq.trans (World.drewN_drewN _ _ _) (congrArg (World.drewN _) (Nat.add_assoc _ _ _))⟩))))
          go_meet
          case rel => exact ⟨_, (!(a1 == 0)), (by first | rfl | (simp; done) | (simp [*]; done)), H', ⟨by first | omega | exact Nat.le_refl _⟩, ⟨by repeat (first | (with_reducible first | exact HB.out | apply below_alloc | apply pw_below_drewN | apply below_drew1) | exact HB.out)⟩⟩
        · rw [if_neg c11] at H
          have c11b0 : (a0 == 0) = false := beq_eq_false_iff_ne.mpr c11
          have c11b1 : (a0 != 0) = true := bne_iff_ne.mpr c11
          have H' := Aside0.mk H
          clear H
          go_wp2_with (first | (go_at_call 20; (with_reducible refine (aes_Times.calls k a0 a1 t202 _ A9.out).mono ?_); rintro e w' ⟨rfl, ⟨nd, rfl⟩⟩; (try first | exact ⟨rfl, _, World.drewN_drewN _ _ _⟩ | exact ⟨rfl, _, Eq.trans (World.drewN_drewN _ _ _) (congrArg (World.drewN _) (Nat.add_assoc _ _ _))⟩)))
          repeat (go_quiet (first | (go_at_call 20; (with_reducible refine (aes_Times.calls k a0 a1 t202 _ A9.out).mono ?_); rintro e w' ⟨rfl, ⟨nd, rfl⟩⟩; (try first | exact ⟨rfl, _, World.drewN_drewN _ _ _⟩ | exact ⟨rfl, _, Eq.trans (World.drewN_drewN _ _ _) (congrArg (World.drewN _) (Nat.add_assoc _ _ _))⟩))); try go_wp2_with (first | (go_at_call 20; (with_reducible refine (aes_Times.calls k a0 a1 t202 _ A9.out).mono ?_); rintro e w' ⟨rfl, ⟨nd, rfl⟩⟩; (try first | exact ⟨rfl, _, World.drewN_drewN _ _ _⟩ | exact ⟨rfl, _, Eq.trans (World.drewN_drewN _ _ _) (congrArg (World.drewN _) (Nat.add_assoc _ _ _))⟩))))
          go_meet
          case rel => exact ⟨_, (!false), (by first | rfl | (simp; done) | (simp [*]; done)), H', ⟨by first | omega | exact Nat.le_refl _⟩, ⟨by repeat (first | (with_reducible first | exact HB.out | apply below_alloc | apply pw_below_drewN | apply below_drew1) | exact HB.out)⟩⟩
    case rest =>
      clear HC6
      try clear c1
      try clear p2
      try clear c4
      try clear c8
      try clear c10
      try clear c10b0
      try clear c10b1
      try clear c11
      try clear c11b0
      try clear c11b1
      obtain ⟨kq, x26_5, rfl, HA, HJ5, HB⟩ := hcut
      cases kq with
      | zero => exact absurd HA.out (by simp [legatelaw04_AesSwaps.j0])
      | succ kj5 =>
        have H := HA.out
        clear HA
        simp only [legatelaw04_AesSwaps.j0] at H
        by_cases c12 : x26_5 = true
        · subst c12
          have H1 : (some true) = some r := by rw [if_pos rfl] at H; exact H
          clear H
          have H := H1
          clear H1
          obtain rfl := Option.some.inj H
          go_wp2
          repeat (go_quiet (fail); try go_wp2)
          go_ret
          exact ⟨by first | rfl | (simp [errW_none, errW_some] <;> rfl) | (simp [*, errW_none, errW_some] <;> rfl), by repeat (first | (with_reducible first | exact HB.out | apply below_alloc | apply pw_below_drewN | apply below_drew1) | exact HB.out)⟩
        · replace c12 := Bool.eq_false_iff.mpr c12
          subst c12
          have H1 : (legatelaw04_AesSwaps.l0 kj5 a1 true t201 (wrap64 (a1)) 1) = some r := by rw [if_neg (show ¬ (false = true) by decide)] at H; exact H
          clear H
          have H := H1
          clear H1
          have H' := Aside0.mk H
          clear H
          go_wp2
          repeat (go_quiet (fail); try go_wp2)
          go_loopg [7, 8] kj5 (fun kq v7 v8 w' => ∃ (x7_2 : Int) (x8_2 : Int), v7 = .int .i64 x7_2 ∧ v8 = .int .i64 x8_2 ∧ Aside0 (legatelaw04_AesSwaps.l0 kq a1 true t201 x7_2 x8_2 = some r) ∧ Aside0 (kq ≤ kj5) ∧ Aside0 (Below w.heap.size w w'))
          case atStart => exact ⟨(wrap64 (a1)), (1), (by first | rfl | (simp; done) | (simp [*]; done)), (by first | rfl | (simp; done) | (simp [*]; done)), H', ⟨Nat.le_refl _⟩, ⟨by repeat (first | (with_reducible first | exact HB.out | apply below_alloc | apply pw_below_drewN | apply below_drew1) | exact HB.out)⟩⟩
          case round =>
            clear H'
            try clear c1
            try clear p2
            try clear c4
            try clear p6
            try clear c8
            try clear c10
            try clear c10b0
            try clear c10b1
            try clear c11
            try clear c11b0
            try clear c11b1
            try clear c12
            try clear p2
            obtain ⟨x7_2, x8_2, rfl, rfl, HA, HK2, HB⟩ := hrel
            cases gk with
            | zero => exact absurd HA.out (by simp [legatelaw04_AesSwaps.l0])
            | succ k2 =>
              have H := HA.out
              clear HA
              simp only [legatelaw04_AesSwaps.l0] at H
              by_cases c13 : x8_2 ≤ 4
              · rw [if_pos c13] at H
                have c13b0 : decide (x8_2 ≤ 4) = true := decide_eq_true c13
                clear c13
                by_cases c14 : 0 ≤ x8_2
                · rw [if_pos c14] at H
                  have c14b0 := eq_true c14
                  have c14b1 : decide (0 ≤ x8_2) = true := decide_eq_true c14
                  clear c14
                  obtain ⟨ji15, hji15⟩ : ∃ j_ : Int, (shl .i64 (wrap64 (a1)) x8_2) = j_ := ⟨_, rfl⟩
                  replace H : (if 0 ≤ (wrap64 (8 - x8_2)) then (legatelaw04_AesSwaps.l0 k2 a1 true t201 (Go.bits .xor .i64 x7_2 (Int.tmod (Go.bits .or .i64 (ji15) (shr .i64 (wrap64 (a1)) (wrap64 (8 - x8_2)))) 256)) (wrap64 (x8_2 + 1))) else (none)) = some r := by first | (rw [hji15] at H; exact H) | (simp only [hji15] at H ⊢; exact H)
                  have hji15_ : (IntKind.i64.wrap ((wrap64 (a1)) * 2 ^ min x8_2.toNat 64)) = ji15 := hji15
                  have hji15z : x8_2 ≤ 64 → (IntKind.i64.wrap ((wrap64 (a1)) * 2 ^ x8_2.toNat)) = ji15 := shl_small hji15
                  have hji15y : (wrap64 ((wrap64 (a1)) * 2 ^ min x8_2.toNat 64)) = ji15 := (i64_w _).symm.trans hji15_
                  have hji15x : x8_2 ≤ 64 → (wrap64 ((wrap64 (a1)) * 2 ^ x8_2.toNat)) = ji15 := fun h_ => (i64_w _).symm.trans (hji15z h_)
                  obtain ⟨ji16, hji16⟩ : ∃ j_ : Int, (wrap64 (8 - x8_2)) = j_ := ⟨_, rfl⟩
                  replace H : (if 0 ≤ (ji16) then (legatelaw04_AesSwaps.l0 k2 a1 true t201 (Go.bits .xor .i64 x7_2 (Int.tmod (Go.bits .or .i64 (ji15) (shr .i64 (wrap64 (a1)) (ji16))) 256)) (wrap64 (x8_2 + 1))) else (none)) = some r := by first | (rw [hji16] at H; exact H) | (simp only [hji16] at H ⊢; exact H)
                  have hji16w : (IntKind.i64.wrap (8 - x8_2)) = ji16 := (i64_w _).trans hji16
                  by_cases c17 : 0 ≤ (ji16)
                  · rw [if_pos c17] at H
                    have c17b0 := eq_true c17
                    have c17b1 : decide (0 ≤ (ji16)) = true := decide_eq_true c17
                    clear c17
                    obtain ⟨ji18, hji18⟩ : ∃ j_ : Int, (shr .i64 (wrap64 (a1)) (ji16)) = j_ := ⟨_, rfl⟩
                    replace H : (legatelaw04_AesSwaps.l0 k2 a1 true t201 (Go.bits .xor .i64 x7_2 (Int.tmod (Go.bits .or .i64 (ji15) (ji18)) 256)) (wrap64 (x8_2 + 1))) = some r := by first | (rw [hji18] at H; exact H) | (simp only [hji18] at H ⊢; exact H)
                    have hji18_ : ((wrap64 (a1)) / 2 ^ min (ji16).toNat 64) = ji18 := hji18
                    have hji18z : (ji16) ≤ 64 → ((wrap64 (a1)) / 2 ^ (ji16).toNat) = ji18 := shr_small hji18
                    have H' := Aside0.mk H
                    clear H
                    go_wp2
                    repeat (go_quiet (fail); try go_wp2)
                    go_roundg k2
                    case measure => have := HJ5.out; have := HK2.out; omega
                    case rel => exact ⟨(Go.bits .xor .i64 x7_2 (Int.tmod (Go.bits .or .i64 (ji15) (ji18)) 256)), (wrap64 (x8_2 + 1)), (by first | rfl | (simp; done) | (simp only [← hji15, ← hji18] <;> (first | rfl | simp)) | (simp [*]; done)), (by first | rfl | (simp; done) | (simp [*]; done)), H', ⟨by have := HJ5.out; have := HK2.out; omega⟩, ⟨by repeat (first | (with_reducible first | exact HB.out | apply below_alloc | apply pw_below_drewN | apply below_drew1) | exact HB.out)⟩⟩
                  · rw [if_neg c17] at H
                    exact absurd H (by simp)
                · rw [if_neg c14] at H
                  exact absurd H (by simp)
              · rw [if_neg c13] at H
                have c13b0 : decide (x8_2 ≤ 4) = false := decide_eq_false c13
                clear c13
                by_cases c19 : true = true
                · clear c19
                  have H1 : (some ((wrap64 (t201)) == (Go.bits .xor .i64 x7_2 99))) = some r := by first | (rw [if_pos rfl] at H; exact H) | (rw [if_pos trivial] at H; exact H) | simpa using H
                  clear H
                  have H := H1
                  clear H1
                  obtain rfl := Option.some.inj H
                  go_wp2
                  repeat (go_quiet (fail); try go_wp2)
                  go_ret
                  exact ⟨by first | rfl | (simp [errW_none, errW_some] <;> rfl) | (simp [*, errW_none, errW_some] <;> rfl), by repeat (first | (with_reducible first | exact HB.out | apply below_alloc | apply pw_below_drewN | apply below_drew1) | exact HB.out)⟩
                · exact absurd rfl c19
  · replace c4 := Bool.eq_false_iff.mpr c4
    subst c4
    have H1 : (some false) = some r := by rw [if_neg (show ¬ (false = true) by decide)] at H; exact H
    clear H
    have H := H1
    clear H1
    obtain rfl := Option.some.inj H
    go_enter Try.func8, Try.ntmps8
    go_wp2_with (first | (go_at_call 19; (with_reducible refine (legatelaw04_works.calls k  false _ A3.out).mono ?_); rintro e w20 ⟨rfl, hb⟩; have n0_ := Aside0.mk (below_step (by repeat (first | (with_reducible first | exact HB.out | apply below_alloc | apply pw_below_drewN | apply below_drew1) | exact HB.out)) hb); clear HB; have HB := n0_; clear n0_; (try clear hb); (try clear hb2); (try clear hk); (try clear hi)))
    repeat (go_quiet (first | (go_at_call 19; (with_reducible refine (legatelaw04_works.calls k  false _ A3.out).mono ?_); rintro e w20 ⟨rfl, hb⟩; have n0_ := Aside0.mk (below_step (by repeat (first | (with_reducible first | exact HB.out | apply below_alloc | apply pw_below_drewN | apply below_drew1) | exact HB.out)) hb); clear HB; have HB := n0_; clear n0_; (try clear hb); (try clear hb2); (try clear hk); (try clear hi))); try go_wp2_with (first | (go_at_call 19; (with_reducible refine (legatelaw04_works.calls k  false _ A3.out).mono ?_); rintro e w20 ⟨rfl, hb⟩; have n0_ := Aside0.mk (below_step (by repeat (first | (with_reducible first | exact HB.out | apply below_alloc | apply pw_below_drewN | apply below_drew1) | exact HB.out)) hb); clear HB; have HB := n0_; clear n0_; (try clear hb); (try clear hb2); (try clear hk); (try clear hi))))
    go_ret
    exact ⟨by first | rfl | (simp [errW_none, errW_some] <;> rfl) | (simp [*, errW_none, errW_some] <;> rfl), by repeat (first | (with_reducible first | exact HB.out | apply below_alloc | apply pw_below_drewN | apply below_drew1) | exact HB.out)⟩

/-- THE ONE PURE STATEMENT of legatelaw04_AesSwaps: yours. -/
def legatelaw04_AesSwaps.Pure : Prop := ∀ (a0 : Int) (a1 : Int), (Lit.int .u8 a0).wf = true → (Lit.int .u8 a1).wf = true → ∃ k, legatelaw04_AesSwaps.f k a0 a1 = some true
theorem legatelaw04_AesSwaps.walk (P : legatelaw04_AesSwaps.Pure) (a0 : Int) (a1 : Int) (w : World) (w0 : (Lit.int .u8 a0).wf = true) (w1 : (Lit.int .u8 a1).wf = true) :
    Calls Try.prog 8 #[.int .u8 a0, .int .u8 a1] w fun e w' => e = .returned (.bool true) ∧ Below w.heap.size w w' := by
  obtain ⟨k, h⟩ := P a0 a1 w0 w1
  refine (legatelaw04_AesSwaps.calls k a0 a1 true w h).mono ?_
  rintro e w' ⟨rfl, hd⟩
  exact ⟨rfl, hd⟩



end Go.Proofs.Ytkgijkfcmbpgpaa.PAll
