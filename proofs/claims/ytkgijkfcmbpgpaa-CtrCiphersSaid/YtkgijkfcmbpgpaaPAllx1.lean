-- written by wip/printx.py, a program of this session, over the kit's print
import Derived.Test.YtkgijkfcmbpgpaaGAes
import Derived.Test.YtkgijkfcmbpgpaaPAllx0
namespace Go.Proofs.Ytkgijkfcmbpgpaa.PAll
open Go.RowKit Go.Proofs.YtkgijkfcmbpgpaaW.PrintWords Go.Proofs.YtkgijkfcmbpgpaaW.PrintLast Go.Proofs.YtkgijkfcmbpgpaaW.PrintMore
open Go.Proofs.Ytkgijkfcmbpgpaa.Giv
attribute [local go_sem] max2_int min2_int max_two min_two max_three min_three max_four min_four   -- for this text's walks alone
set_option linter.unusedVariables false
set_option linter.unusedSimpArgs false

/-! ### aes_twice: function 44 -/
def aes_twice.f (a0 : Int) : Option (Int) := if (Go.bits .and .u8 a0 128) = 0 then (some ((a0 * 2) % 256)) else (some (Go.bits .xor .u8 ((a0 * 2) % 256) 27))
set_option maxHeartbeats 8000000 in
set_option maxRecDepth 100000 in
theorem aes_twice.calls (a0 : Int) (r : Int) (w : World) (h : aes_twice.f a0 = some r) :
    Calls Try.prog 44 #[.int .u8 a0] w fun e w' => e = .returned (.int .u8 r) ∧ Drawn0 w w' := by
  have H : (if (Go.bits .and .u8 a0 128) = 0 then (some ((a0 * 2) % 256)) else (some (Go.bits .xor .u8 ((a0 * 2) % 256) 27))) = some r := h
  clear h
  by_cases c2 : (Go.bits .and .u8 a0 128) = 0
  · rw [if_pos c2] at H
    have c2b0 : ((Go.bits .and .u8 a0 128) == 0) = true := beq_iff_eq.mpr c2
    have c2b1 : ((Go.bits .and .u8 a0 128) != 0) = false := bne_eq_false_iff_eq.mpr c2
    clear c2
    obtain rfl := Option.some.inj H
    go_enter Try.func44, Try.ntmps44
    go_wp2
    go_ret
    exact ⟨by first | rfl | (simp; done) | (simp [*]; done), by repeat (first | exact Drawn0.refl _ | apply Drawn0.step)⟩
  · rw [if_neg c2] at H
    have c2b0 : ((Go.bits .and .u8 a0 128) == 0) = false := beq_eq_false_iff_ne.mpr c2
    have c2b1 : ((Go.bits .and .u8 a0 128) != 0) = true := bne_iff_ne.mpr c2
    obtain rfl := Option.some.inj H
    go_enter Try.func44, Try.ntmps44
    go_wp2
    go_ret
    exact ⟨by first | rfl | (simp; done) | (simp [*]; done), by repeat (first | exact Drawn0.refl _ | apply Drawn0.step)⟩

/-! ### aes_Times: function 20 -/
def aes_Times.l0 : Nat → Int → Int → Int → Option (Int)
  | 0, _, _, _ => none
  | k + 1, x0, x1, x5 => if x1 = 0 then (some x5) else (if (Go.bits .and .u8 x1 1) = 0 then ((aes_twice.f x0).bind fun t101 => (aes_Times.l0 k t101 (x1 / 2) x5)) else ((aes_twice.f x0).bind fun t102 => (aes_Times.l0 k t102 (x1 / 2) (Go.bits .xor .u8 x5 x0))))
def aes_Times.f (k : Nat) (a0 : Int) (a1 : Int) : Option (Int) := aes_Times.l0 k a0 a1 0
theorem aes_Times.mono_l : ∀ k, (∀ y0 y1 y2, LeO (aes_Times.l0 k y0 y1 y2) (aes_Times.l0 (k + 1) y0 y1 y2))
  | 0 => fun _ _ _ r h => by simp [aes_Times.l0] at h
  | k + 1 => by
    have ih0 := aes_Times.mono_l k
    · intro y0 y1 y2
      unfold aes_Times.l0
      repeat' first
      | (with_reducible exact ih0 _ _ _)
      | (with_reducible exact LeO.refl _)
      | (with_reducible exact LeO.none _)
      | (with_reducible refine LeO.ite ?_ ?_)
      | (with_reducible refine LeO.bind ?_ (fun _ => ?_))
      | exact ih0 _ _ _
      | exact LeO.none _
      | refine LeO.ite ?_ ?_
      | refine LeO.bind ?_ (fun _ => ?_)
theorem aes_Times.mono : ∀ a0 a1 k, LeO (aes_Times.f k a0 a1) (aes_Times.f (k + 1) a0 a1) := by
  intro a0 a1 k
  have ih0 := aes_Times.mono_l k
  unfold aes_Times.f
  repeat' first
      | (with_reducible exact ih0 _ _ _)
      | (with_reducible exact LeO.refl _)
      | (with_reducible exact LeO.none _)
      | (with_reducible refine LeO.ite ?_ ?_)
      | (with_reducible refine LeO.bind ?_ (fun _ => ?_))
      | exact ih0 _ _ _
      | exact LeO.none _
      | refine LeO.ite ?_ ?_
      | refine LeO.bind ?_ (fun _ => ?_)
set_option maxHeartbeats 8000000 in
set_option maxRecDepth 100000 in
theorem aes_Times.calls (k : Nat) (a0 : Int) (a1 : Int) (r : Int) (w : World) (h : aes_Times.f k a0 a1 = some r) :
    Calls Try.prog 20 #[.int .u8 a0, .int .u8 a1] w fun e w' => e = .returned (.int .u8 r) ∧ Drawn0 w w' := by
  have H : (aes_Times.l0 k a0 a1 0) = some r := h
  clear h
  have H' := Aside0.mk H
  clear H
  go_enter Try.func20, Try.ntmps20
  go_wp2
  go_loopg [0, 1, 5] k (fun kq v0 v1 v5 w' => ∃ (x0_1 : Int) (x1_1 : Int) (x5_1 : Int), v0 = .int .u8 x0_1 ∧ v1 = .int .u8 x1_1 ∧ v5 = .int .u8 x5_1 ∧ Aside0 (aes_Times.l0 kq x0_1 x1_1 x5_1 = some r) ∧ Aside0 (kq ≤ k) ∧ Drawn0 w w')
  case atStart => exact ⟨(a0), (a1), (0), (by first | rfl | (simp; done) | (simp [*]; done)), (by first | rfl | (simp; done) | (simp [*]; done)), (by first | rfl | (simp; done) | (simp [*]; done)), H', ⟨Nat.le_refl _⟩, by repeat (first | exact Drawn0.refl _ | apply Drawn0.step)⟩
  case round =>
    clear H'
    try clear c2
    try clear p2
    obtain ⟨x0_1, x1_1, x5_1, rfl, rfl, rfl, HA, HK1, ⟨m1, rfl⟩⟩ := hrel
    cases gk with
    | zero => exact absurd HA.out (by simp [aes_Times.l0])
    | succ k1 =>
      have H := HA.out
      clear HA
      simp only [aes_Times.l0] at H
      by_cases c3 : x1_1 = 0
      · rw [if_pos c3] at H
        have c3b0 : (x1_1 == 0) = true := beq_iff_eq.mpr c3
        have c3b1 : (x1_1 != 0) = false := bne_eq_false_iff_eq.mpr c3
        clear c3
        obtain rfl := Option.some.inj H
        go_wp2
        go_ret
        exact ⟨by first | rfl | (simp; done) | (simp [*]; done), by repeat (first | exact Drawn0.refl _ | apply Drawn0.step)⟩
      · rw [if_neg c3] at H
        have c3b0 : (x1_1 == 0) = false := beq_eq_false_iff_ne.mpr c3
        have c3b1 : (x1_1 != 0) = true := bne_iff_ne.mpr c3
        by_cases c4 : (Go.bits .and .u8 x1_1 1) = 0
        · rw [if_pos c4] at H
          have c4b0 : ((Go.bits .and .u8 x1_1 1) == 0) = true := beq_iff_eq.mpr c4
          have c4b1 : ((Go.bits .and .u8 x1_1 1) != 0) = false := bne_eq_false_iff_eq.mpr c4
          clear c4
          replace H := Option.bind_eq_some_iff.mp H
          obtain ⟨t101, A50, H⟩ := H
          replace H : (aes_Times.l0 k1 t101 (x1_1 / 2) x5_1) = some r := H
          have A5 := Aside0.mk A50
          clear A50
          have H' := Aside0.mk H
          clear H
          go_wp2_with (first | ((with_reducible refine gate_callee (f := 44) rfl ?_); refine goesL_ (some 17) rfl rfl Try.func44 (by kernel_rfl) rfl #[.int .u8 x0_1] rfl (by (try simp only [List.map_toArray, List.map_cons, List.map_nil]); first | done | rfl | (simp only [List.length_drop, List.length_take]; rfl)) ?_; (with_reducible refine (aes_twice.calls x0_1 t101 _ A5.out).mono ?_); rintro e w' ⟨rfl, ⟨nd, rfl⟩⟩; refine ⟨_, rfl, ?_⟩))
          go_roundg k1
          case measure => have := HK1.out; omega
          case rel => exact ⟨(t101), (x1_1 / 2), (x5_1), (by first | rfl | (simp; done) | (simp [*]; done)), (by first | rfl | (simp; done) | (simp [*]; done)), (by first | rfl | (simp; done) | (simp [*]; done)), H', ⟨by have := HK1.out; omega⟩, by repeat (first | exact Drawn0.refl _ | apply Drawn0.step)⟩
        · rw [if_neg c4] at H
          have c4b0 : ((Go.bits .and .u8 x1_1 1) == 0) = false := beq_eq_false_iff_ne.mpr c4
          have c4b1 : ((Go.bits .and .u8 x1_1 1) != 0) = true := bne_iff_ne.mpr c4
          replace H := Option.bind_eq_some_iff.mp H
          obtain ⟨t102, A60, H⟩ := H
          replace H : (aes_Times.l0 k1 t102 (x1_1 / 2) (Go.bits .xor .u8 x5_1 x0_1)) = some r := H
          have A6 := Aside0.mk A60
          clear A60
          have H' := Aside0.mk H
          clear H
          go_wp2_with (first | ((with_reducible refine gate_callee (f := 44) rfl ?_); refine goesL_ (some 17) rfl rfl Try.func44 (by kernel_rfl) rfl #[.int .u8 x0_1] rfl (by (try simp only [List.map_toArray, List.map_cons, List.map_nil]); first | done | rfl | (simp only [List.length_drop, List.length_take]; rfl)) ?_; (with_reducible refine (aes_twice.calls x0_1 t102 _ A6.out).mono ?_); rintro e w' ⟨rfl, ⟨nd, rfl⟩⟩; refine ⟨_, rfl, ?_⟩))
          go_roundg k1
          case measure => have := HK1.out; omega
          case rel => exact ⟨(t102), (x1_1 / 2), (Go.bits .xor .u8 x5_1 x0_1), (by first | rfl | (simp; done) | (simp [*]; done)), (by first | rfl | (simp; done) | (simp [*]; done)), (by first | rfl | (simp; done) | (simp [*]; done)), H', ⟨by have := HK1.out; omega⟩, by repeat (first | exact Drawn0.refl _ | apply Drawn0.step)⟩




/-! ### legatelaw04_works: function 19 -/
/-! ### legateref04_Times: function 21 -/
mutual
def legateref04_Times.l0 : Nat → Int → Int → Int → Int → Option (Int)
  | 0, _, _, _, _ => none
  | k + 1, x0, x1, x5, x6 => if x6 < 8 then (if 0 ≤ x6 then (if (Int.tmod (shr .u8 x1 x6) 2) = 1 then (legateref04_Times.l0 k x0 x1 (Go.bits .xor .i64 x5 (shl .i64 (wrap64 (x0)) x6)) (wrap64 (x6 + 1))) else (legateref04_Times.l0 k x0 x1 x5 (wrap64 (x6 + 1)))) else (none)) else (legateref04_Times.l1 k x5 14)
def legateref04_Times.l1 : Nat → Int → Int → Option (Int)
  | 0, _, _ => none
  | k + 1, x5, x7 => if x7 ≥ 8 then (if 0 ≤ x7 then (if (Int.tmod (shr .i64 x5 x7) 2) = 1 then (if 0 ≤ (wrap64 (x7 - 8)) then (legateref04_Times.l1 k (Go.bits .xor .i64 x5 (shl .i64 283 (wrap64 (x7 - 8)))) (wrap64 (x7 - 1))) else (none)) else (legateref04_Times.l1 k x5 (wrap64 (x7 - 1)))) else (none)) else (some ((x5) % 256))
end
def legateref04_Times.f (k : Nat) (a0 : Int) (a1 : Int) : Option (Int) := legateref04_Times.l0 k a0 a1 0 0
set_option maxHeartbeats 8000000 in
set_option maxRecDepth 100000 in
theorem legateref04_Times.calls (k : Nat) (a0 : Int) (a1 : Int) (r : Int) (w : World) (h : legateref04_Times.f k a0 a1 = some r) :
    Calls Try.prog 21 #[.int .u8 a0, .int .u8 a1] w fun e w' => e = .returned (.int .u8 r) ∧ Drawn0 w w' := by
  have H : (legateref04_Times.l0 k a0 a1 0 0) = some r := h
  clear h
  have H' := Aside0.mk H
  clear H
  go_enter Try.func21, Try.ntmps21
  go_wp2
  go_loopg [5, 6] k (fun kq v5 v6 w' => ∃ (x5_1 : Int) (x6_1 : Int), v5 = .int .i64 x5_1 ∧ v6 = .int .i64 x6_1 ∧ Aside0 (legateref04_Times.l0 kq a0 a1 x5_1 x6_1 = some r) ∧ Aside0 (kq ≤ k) ∧ Drawn0 w w')
  case atStart => exact ⟨(0), (0), (by first | rfl | (simp; done) | (simp [*]; done)), (by first | rfl | (simp; done) | (simp [*]; done)), H', ⟨Nat.le_refl _⟩, by repeat (first | exact Drawn0.refl _ | apply Drawn0.step)⟩
  case round =>
    clear H'
    try clear c2
    try clear p2
    obtain ⟨x5_1, x6_1, rfl, rfl, HA, HK1, ⟨m1, rfl⟩⟩ := hrel
    cases gk with
    | zero => exact absurd HA.out (by simp [legateref04_Times.l0])
    | succ k1 =>
      have H := HA.out
      clear HA
      simp only [legateref04_Times.l0] at H
      by_cases c3 : x6_1 < 8
      · rw [if_pos c3] at H
        have c3b0 : decide (x6_1 < 8) = true := decide_eq_true c3
        clear c3
        by_cases c4 : 0 ≤ x6_1
        · rw [if_pos c4] at H
          have c4b0 := eq_true c4
          have c4b1 : decide (0 ≤ x6_1) = true := decide_eq_true c4
          clear c4
          obtain ⟨ji5, hji5⟩ : ∃ j_ : Int, (shr .u8 a1 x6_1) = j_ := ⟨_, rfl⟩
          replace H : (if (Int.tmod (ji5) 2) = 1 then (legateref04_Times.l0 k1 a0 a1 (Go.bits .xor .i64 x5_1 (shl .i64 (wrap64 (a0)) x6_1)) (wrap64 (x6_1 + 1))) else (legateref04_Times.l0 k1 a0 a1 x5_1 (wrap64 (x6_1 + 1)))) = some r := by first | (rw [hji5] at H; exact H) | (simp only [hji5] at H ⊢; exact H)
          have hji5_ : (a1 / 2 ^ min x6_1.toNat 8) = ji5 := hji5
          have hji5z : x6_1 ≤ 8 → (a1 / 2 ^ x6_1.toNat) = ji5 := shr_small hji5
          by_cases c6 : (Int.tmod (ji5) 2) = 1
          · rw [if_pos c6] at H
            have c6b0 : ((Int.tmod (ji5) 2) == 1) = true := beq_iff_eq.mpr c6
            have c6b1 : ((Int.tmod (ji5) 2) != 1) = false := bne_eq_false_iff_eq.mpr c6
            clear c6
            have c7b0 := eq_true (of_decide_eq_true (by first | (with_reducible assumption) | assumption) : 0 ≤ x6_1)
            obtain ⟨ji8, hji8⟩ : ∃ j_ : Int, (shl .i64 (wrap64 (a0)) x6_1) = j_ := ⟨_, rfl⟩
            replace H : (legateref04_Times.l0 k1 a0 a1 (Go.bits .xor .i64 x5_1 (ji8)) (wrap64 (x6_1 + 1))) = some r := by first | (rw [hji8] at H; exact H) | (simp only [hji8] at H ⊢; exact H)
            have hji8_ : (IntKind.i64.wrap ((wrap64 (a0)) * 2 ^ min x6_1.toNat 64)) = ji8 := hji8
            have hji8z : x6_1 ≤ 64 → (IntKind.i64.wrap ((wrap64 (a0)) * 2 ^ x6_1.toNat)) = ji8 := shl_small hji8
            have hji8y : (wrap64 ((wrap64 (a0)) * 2 ^ min x6_1.toNat 64)) = ji8 := (i64_w _).symm.trans hji8_
            have hji8x : x6_1 ≤ 64 → (wrap64 ((wrap64 (a0)) * 2 ^ x6_1.toNat)) = ji8 := fun h_ => (i64_w _).symm.trans (hji8z h_)
            have H' := Aside0.mk H
            clear H
            go_wp2
            go_roundg k1
            case measure => have := HK1.out; omega
            case rel => exact ⟨(Go.bits .xor .i64 x5_1 (ji8)), (wrap64 (x6_1 + 1)), (by first | rfl | (simp; done) | (simp only [← hji8] <;> (first | rfl | simp)) | (simp [*]; done)), (by first | rfl | (simp; done) | (simp [*]; done)), H', ⟨by have := HK1.out; omega⟩, by repeat (first | exact Drawn0.refl _ | apply Drawn0.step)⟩
          · rw [if_neg c6] at H
            have c6b0 : ((Int.tmod (ji5) 2) == 1) = false := beq_eq_false_iff_ne.mpr c6
            have c6b1 : ((Int.tmod (ji5) 2) != 1) = true := bne_iff_ne.mpr c6
            have H' := Aside0.mk H
            clear H
            go_wp2
            go_roundg k1
            case measure => have := HK1.out; omega
            case rel => exact ⟨(x5_1), (wrap64 (x6_1 + 1)), (by first | rfl | (simp; done) | (simp [*]; done)), (by first | rfl | (simp; done) | (simp [*]; done)), H', ⟨by have := HK1.out; omega⟩, by repeat (first | exact Drawn0.refl _ | apply Drawn0.step)⟩
        · rw [if_neg c4] at H
          exact absurd H (by simp)
      · rw [if_neg c3] at H
        have c3b0 : decide (x6_1 < 8) = false := decide_eq_false c3
        clear c3
        have H' := Aside0.mk H
        clear H
        go_wp2
        go_loopg [5, 7] k1 (fun kq v5 v7 w' => ∃ (x5_2 : Int) (x7_2 : Int), v5 = .int .i64 x5_2 ∧ v7 = .int .i64 x7_2 ∧ Aside0 (legateref04_Times.l1 kq x5_2 x7_2 = some r) ∧ Aside0 (kq ≤ k1) ∧ Drawn0 w w')
        case atStart => exact ⟨(x5_1), (14), (by first | rfl | (simp; done) | (simp [*]; done)), (by first | rfl | (simp; done) | (simp [*]; done)), H', ⟨Nat.le_refl _⟩, by repeat (first | exact Drawn0.refl _ | apply Drawn0.step)⟩
        case round =>
          clear H'
          try clear c2
          try clear p2
          try clear c3
          try clear c3b0
          try clear c4
          try clear c4b0
          try clear c4b1
          try clear c6
          try clear c6b0
          try clear c6b1
          try clear p6
          try clear c7
          try clear c7b0
          try clear p2
          obtain ⟨x5_2, x7_2, rfl, rfl, HA, HK2, ⟨m2, rfl⟩⟩ := hrel
          cases gk with
          | zero => exact absurd HA.out (by simp [legateref04_Times.l1])
          | succ k2 =>
            have H := HA.out
            clear HA
            simp only [legateref04_Times.l1] at H
            by_cases c9 : x7_2 ≥ 8
            · rw [if_pos c9] at H
              have c9b0 : decide (8 ≤ x7_2) = true := decide_eq_true c9
              clear c9
              by_cases c10 : 0 ≤ x7_2
              · rw [if_pos c10] at H
                have c10b0 := eq_true c10
                have c10b1 : decide (0 ≤ x7_2) = true := decide_eq_true c10
                clear c10
                obtain ⟨ji11, hji11⟩ : ∃ j_ : Int, (shr .i64 x5_2 x7_2) = j_ := ⟨_, rfl⟩
                replace H : (if (Int.tmod (ji11) 2) = 1 then (if 0 ≤ (wrap64 (x7_2 - 8)) then (legateref04_Times.l1 k2 (Go.bits .xor .i64 x5_2 (shl .i64 283 (wrap64 (x7_2 - 8)))) (wrap64 (x7_2 - 1))) else (none)) else (legateref04_Times.l1 k2 x5_2 (wrap64 (x7_2 - 1)))) = some r := by first | (rw [hji11] at H; exact H) | (simp only [hji11] at H ⊢; exact H)
                have hji11_ : (x5_2 / 2 ^ min x7_2.toNat 64) = ji11 := hji11
                have hji11z : x7_2 ≤ 64 → (x5_2 / 2 ^ x7_2.toNat) = ji11 := shr_small hji11
                by_cases c12 : (Int.tmod (ji11) 2) = 1
                · rw [if_pos c12] at H
                  have c12b0 : ((Int.tmod (ji11) 2) == 1) = true := beq_iff_eq.mpr c12
                  have c12b1 : ((Int.tmod (ji11) 2) != 1) = false := bne_eq_false_iff_eq.mpr c12
                  clear c12
                  obtain ⟨ji13, hji13⟩ : ∃ j_ : Int, (wrap64 (x7_2 - 8)) = j_ := ⟨_, rfl⟩
                  replace H : (if 0 ≤ (ji13) then (legateref04_Times.l1 k2 (Go.bits .xor .i64 x5_2 (shl .i64 283 (ji13))) (wrap64 (x7_2 - 1))) else (none)) = some r := by first | (rw [hji13] at H; exact H) | (simp only [hji13] at H ⊢; exact H)
                  have hji13w : (IntKind.i64.wrap (x7_2 - 8)) = ji13 := (i64_w _).trans hji13
                  by_cases c14 : 0 ≤ (ji13)
                  · rw [if_pos c14] at H
                    have c14b0 := eq_true c14
                    have c14b1 : decide (0 ≤ (ji13)) = true := decide_eq_true c14
                    clear c14
                    obtain ⟨ji15, hji15⟩ : ∃ j_ : Int, (shl .i64 283 (ji13)) = j_ := ⟨_, rfl⟩
                    replace H : (legateref04_Times.l1 k2 (Go.bits .xor .i64 x5_2 (ji15)) (wrap64 (x7_2 - 1))) = some r := by first | (rw [hji15] at H; exact H) | (simp only [hji15] at H ⊢; exact H)
                    have hji15_ : (IntKind.i64.wrap (283 * 2 ^ min (ji13).toNat 64)) = ji15 := hji15
                    have hji15z : (ji13) ≤ 64 → (IntKind.i64.wrap (283 * 2 ^ (ji13).toNat)) = ji15 := shl_small hji15
                    have hji15y : (wrap64 (283 * 2 ^ min (ji13).toNat 64)) = ji15 := (i64_w _).symm.trans hji15_
                    have hji15x : (ji13) ≤ 64 → (wrap64 (283 * 2 ^ (ji13).toNat)) = ji15 := fun h_ => (i64_w _).symm.trans (hji15z h_)
                    have H' := Aside0.mk H
                    clear H
                    go_wp2
                    go_roundg k2
                    case measure => have := HK1.out; have := HK2.out; omega
                    case rel => exact ⟨(Go.bits .xor .i64 x5_2 (ji15)), (wrap64 (x7_2 - 1)), (by first | rfl | (simp; done) | (simp only [← hji15] <;> (first | rfl | simp)) | (simp [*]; done)), (by first | rfl | (simp; done) | (simp [*]; done)), H', ⟨by have := HK1.out; have := HK2.out; omega⟩, by repeat (first | exact Drawn0.refl _ | apply Drawn0.step)⟩
                  · rw [if_neg c14] at H
                    exact absurd H (by simp)
                · rw [if_neg c12] at H
                  have c12b0 : ((Int.tmod (ji11) 2) == 1) = false := beq_eq_false_iff_ne.mpr c12
                  have c12b1 : ((Int.tmod (ji11) 2) != 1) = true := bne_iff_ne.mpr c12
                  have H' := Aside0.mk H
                  clear H
                  go_wp2
                  go_roundg k2
                  case measure => have := HK1.out; have := HK2.out; omega
                  case rel => exact ⟨(x5_2), (wrap64 (x7_2 - 1)), (by first | rfl | (simp; done) | (simp [*]; done)), (by first | rfl | (simp; done) | (simp [*]; done)), H', ⟨by have := HK1.out; have := HK2.out; omega⟩, by repeat (first | exact Drawn0.refl _ | apply Drawn0.step)⟩
              · rw [if_neg c10] at H
                exact absurd H (by simp)
            · rw [if_neg c9] at H
              have c9b0 : decide (8 ≤ x7_2) = false := decide_eq_false c9
              clear c9
              obtain rfl := Option.some.inj H
              go_wp2
              go_ret
              exact ⟨by first | rfl | (simp; done) | (simp [*]; done), by repeat (first | exact Drawn0.refl _ | apply Drawn0.step)⟩

/-! ### legateref04_Swap: function 23 -/
mutual
def legateref04_Swap.l0 : Nat → Int → Int → Int → Option (Int)
  | 0, _, _, _ => none
  | k + 1, x0, x3, x4 => if x4 < 256 then (legateref04_Swap.j1 k x0 x3 x4 (x3 == 0)) else (legateref04_Swap.j1 k x0 x3 x4 false)
def legateref04_Swap.j1 : Nat → Int → Int → Int → Bool → Option (Int)
  | 0, _, _, _, _ => none
  | k + 1, x0, x3, x4, x12 => if x12 = true then ((legateref04_Times.f k x0 ((x4) % 256)).bind fun t107 => (if t107 = 1 then (legateref04_Swap.l0 k x0 x4 (wrap64 (x4 + 1))) else (legateref04_Swap.l0 k x0 x3 (wrap64 (x4 + 1))))) else (legateref04_Swap.l1 k x3 99 0)
def legateref04_Swap.l1 : Nat → Int → Int → Int → Option (Int)
  | 0, _, _, _ => none
  | k + 1, x3, x5, x6 => if x6 ≤ 4 then (if 0 ≤ x6 then (if 0 ≤ (wrap64 (8 - x6)) then (legateref04_Swap.l1 k x3 (Go.bits .xor .i64 x5 (Int.tmod (Go.bits .or .i64 (shl .i64 x3 x6) (shr .i64 x3 (wrap64 (8 - x6)))) 256)) (wrap64 (x6 + 1))) else (none)) else (none)) else (some ((x5) % 256))
end
def legateref04_Swap.f (k : Nat) (a0 : Int) : Option (Int) := legateref04_Swap.l0 k a0 0 1
set_option maxHeartbeats 8000000 in
set_option maxRecDepth 100000 in
theorem legateref04_Swap.calls (k : Nat) (a0 : Int) (r : Int) (w : World) (h : legateref04_Swap.f k a0 = some r) :
    Calls Try.prog 23 #[.int .u8 a0] w fun e w' => e = .returned (.int .u8 r) ∧ Drawn0 w w' := by
  have H : (legateref04_Swap.l0 k a0 0 1) = some r := h
  clear h
  have H' := Aside0.mk H
  clear H
  go_enter Try.func23, Try.ntmps23
  go_wp2
  repeat (go_quiet (fail); try go_wp2)
  go_loopg [3, 4] k (fun kq v3 v4 w' => ∃ (x3_1 : Int) (x4_1 : Int), v3 = .int .i64 x3_1 ∧ v4 = .int .i64 x4_1 ∧ Aside0 (legateref04_Swap.l0 kq a0 x3_1 x4_1 = some r) ∧ Aside0 (kq ≤ k) ∧ Drawn0 w w')
  case atStart => exact ⟨(0), (1), (by first | rfl | (simp; done) | (simp [*]; done)), (by first | rfl | (simp; done) | (simp [*]; done)), H', ⟨Nat.le_refl _⟩, by repeat (first | exact Drawn0.refl _ | apply Drawn0.step)⟩
  case round =>
    clear H'
    obtain ⟨x3_1, x4_1, rfl, rfl, HA, HK1, ⟨m1, rfl⟩⟩ := hrel
    cases gk with
    | zero => exact absurd HA.out (by simp [legateref04_Swap.l0])
    | succ k1 =>
      have H := HA.out
      clear HA
      simp only [legateref04_Swap.l0] at H
      have HC2 := Aside0.mk H
      clear H
      go_upto_region 3 with (fail)
      repeat (go_quiet (fail); go_upto_region 3 with (fail))
      go_cut [12] (fun v12 wc => ∃ (kq : Nat) (x12_1 : Bool), v12 = .bool x12_1 ∧ Aside0 (legateref04_Swap.j1 kq a0 x3_1 x4_1 x12_1 = some r) ∧ Aside0 (kq ≤ k1) ∧ Drawn0 w wc)
      case first =>
        have H := HC2.out
        clear HC2
        by_cases c3 : x4_1 < 256
        · rw [if_pos c3] at H
          have c3b0 : decide (x4_1 < 256) = true := decide_eq_true c3
          clear c3
          (first | rw [c3b0] | (simp only [i64_w, i32_w]; rw [c3b0]) | skip)
          have H' := Aside0.mk H
          clear H
          go_wp2
          repeat (go_quiet (fail); try go_wp2)
          go_meet
          case rel => exact ⟨_, ((x3_1 == 0)), (by first | rfl | (simp; done) | (simp [*]; done)), H', ⟨by have := HK1.out; first | omega | exact Nat.le_refl _⟩, by repeat (first | exact Drawn0.refl _ | apply Drawn0.step)⟩
        · rw [if_neg c3] at H
          have c3b0 : decide (x4_1 < 256) = false := decide_eq_false c3
          clear c3
          (first | rw [c3b0] | (simp only [i64_w, i32_w]; rw [c3b0]) | skip)
          have H' := Aside0.mk H
          clear H
          go_wp2
          repeat (go_quiet (fail); try go_wp2)
          go_meet
          case rel => exact ⟨_, (false), (by first | rfl | (simp; done) | (simp [*]; done)), H', ⟨by have := HK1.out; first | omega | exact Nat.le_refl _⟩, by repeat (first | exact Drawn0.refl _ | apply Drawn0.step)⟩
      case rest =>
        clear HC2
        try clear c2
        try clear p2
        try clear c3
        try clear c3b0
        obtain ⟨kq, x12_1, rfl, HA, HJ1, ⟨mc1, rfl⟩⟩ := hcut
        cases kq with
        | zero => exact absurd HA.out (by simp [legateref04_Swap.j1])
        | succ kj1 =>
          have H := HA.out
          clear HA
          simp only [legateref04_Swap.j1] at H
          by_cases c4 : x12_1 = true
          · subst c4
            have H1 : ((legateref04_Times.f kj1 a0 ((x4_1) % 256)).bind fun t107 => (if t107 = 1 then (legateref04_Swap.l0 kj1 a0 x4_1 (wrap64 (x4_1 + 1))) else (legateref04_Swap.l0 kj1 a0 x3_1 (wrap64 (x4_1 + 1))))) = some r := by rw [if_pos rfl] at H; exact H
            clear H
            have H := H1
            clear H1
            replace H := Option.bind_eq_some_iff.mp H
            obtain ⟨t107, A50, H⟩ := H
            replace H : (if t107 = 1 then (legateref04_Swap.l0 kj1 a0 x4_1 (wrap64 (x4_1 + 1))) else (legateref04_Swap.l0 kj1 a0 x3_1 (wrap64 (x4_1 + 1)))) = some r := H
            have A5 := Aside0.mk A50
            clear A50
            by_cases c6 : t107 = 1
            · rw [if_pos c6] at H
              have c6b0 : (t107 == 1) = true := beq_iff_eq.mpr c6
              have c6b1 : (t107 != 1) = false := bne_eq_false_iff_eq.mpr c6
              clear c6
              have H' := Aside0.mk H
              clear H
              go_wp2_with (first | (go_at_call 21; (with_reducible refine (legateref04_Times.calls kj1 a0 ((x4_1) % 256) t107 _ A5.out).mono ?_); rintro e w' ⟨rfl, ⟨nd, rfl⟩⟩; (try first | exact ⟨rfl, _, World.drewN_drewN _ _ _⟩ | exact ⟨rfl, _, Eq.trans (World.drewN_drewN _ _ _) (congrArg (World.drewN _) (Nat.add_assoc _ _ _))⟩)))
              repeat (go_quiet (first | (go_at_call 21; (with_reducible refine (legateref04_Times.calls kj1 a0 ((x4_1) % 256) t107 _ A5.out).mono ?_); rintro e w' ⟨rfl, ⟨nd, rfl⟩⟩; (try first | exact ⟨rfl, _, World.drewN_drewN _ _ _⟩ | exact ⟨rfl, _, Eq.trans (World.drewN_drewN _ _ _) (congrArg (World.drewN _) (Nat.add_assoc _ _ _))⟩))); try go_wp2_with (first | (go_at_call 21; (with_reducible refine (legateref04_Times.calls kj1 a0 ((x4_1) % 256) t107 _ A5.out).mono ?_); rintro e w' ⟨rfl, ⟨nd, rfl⟩⟩; (try first | exact ⟨rfl, _, World.drewN_drewN _ _ _⟩ | exact ⟨rfl, _, Eq.trans (World.drewN_drewN _ _ _) (congrArg (World.drewN _) (Nat.add_assoc _ _ _))⟩))))
              go_roundg kj1
              case measure => have := HK1.out; have := HJ1.out; omega
              case rel => exact ⟨(x4_1), (wrap64 (x4_1 + 1)), (by first | rfl | (simp; done) | (simp [*]; done)), (by first | rfl | (simp; done) | (simp [*]; done)), H', ⟨by have := HK1.out; have := HJ1.out; omega⟩, by repeat (first | exact Drawn0.refl _ | apply Drawn0.step)⟩
            · rw [if_neg c6] at H
              have c6b0 : (t107 == 1) = false := beq_eq_false_iff_ne.mpr c6
              have c6b1 : (t107 != 1) = true := bne_iff_ne.mpr c6
              have H' := Aside0.mk H
              clear H
              go_wp2_with (first | (go_at_call 21; (with_reducible refine (legateref04_Times.calls kj1 a0 ((x4_1) % 256) t107 _ A5.out).mono ?_); rintro e w' ⟨rfl, ⟨nd, rfl⟩⟩; (try first | exact ⟨rfl, _, World.drewN_drewN _ _ _⟩ | exact ⟨rfl, _, Eq.trans (World.drewN_drewN _ _ _) (congrArg (World.drewN _) (Nat.add_assoc _ _ _))⟩)))
              repeat (go_quiet (first | (go_at_call 21; (with_reducible refine (legateref04_Times.calls kj1 a0 ((x4_1) % 256) t107 _ A5.out).mono ?_); rintro e w' ⟨rfl, ⟨nd, rfl⟩⟩; (try first | exact ⟨rfl, _, World.drewN_drewN _ _ _⟩ | exact ⟨rfl, _, Eq.trans (World.drewN_drewN _ _ _) (congrArg (World.drewN _) (Nat.add_assoc _ _ _))⟩))); try go_wp2_with (first | (go_at_call 21; (with_reducible refine (legateref04_Times.calls kj1 a0 ((x4_1) % 256) t107 _ A5.out).mono ?_); rintro e w' ⟨rfl, ⟨nd, rfl⟩⟩; (try first | exact ⟨rfl, _, World.drewN_drewN _ _ _⟩ | exact ⟨rfl, _, Eq.trans (World.drewN_drewN _ _ _) (congrArg (World.drewN _) (Nat.add_assoc _ _ _))⟩))))
              go_roundg kj1
              case measure => have := HK1.out; have := HJ1.out; omega
              case rel => exact ⟨(x3_1), (wrap64 (x4_1 + 1)), (by first | rfl | (simp; done) | (simp [*]; done)), (by first | rfl | (simp; done) | (simp [*]; done)), H', ⟨by have := HK1.out; have := HJ1.out; omega⟩, by repeat (first | exact Drawn0.refl _ | apply Drawn0.step)⟩
          · replace c4 := Bool.eq_false_iff.mpr c4
            subst c4
            have H1 : (legateref04_Swap.l1 kj1 x3_1 99 0) = some r := by rw [if_neg (show ¬ (false = true) by decide)] at H; exact H
            clear H
            have H := H1
            clear H1
            have H' := Aside0.mk H
            clear H
            go_wp2
            repeat (go_quiet (fail); try go_wp2)
            go_loopg [5, 6] kj1 (fun kq v5 v6 w' => ∃ (x5_3 : Int) (x6_3 : Int), v5 = .int .i64 x5_3 ∧ v6 = .int .i64 x6_3 ∧ Aside0 (legateref04_Swap.l1 kq x3_1 x5_3 x6_3 = some r) ∧ Aside0 (kq ≤ kj1) ∧ Drawn0 w w')
            case atStart => exact ⟨(99), (0), (by first | rfl | (simp; done) | (simp [*]; done)), (by first | rfl | (simp; done) | (simp [*]; done)), H', ⟨Nat.le_refl _⟩, by repeat (first | exact Drawn0.refl _ | apply Drawn0.step)⟩
            case round =>
              clear H'
              try clear c1
              try clear c2
              try clear p2
              try clear c3
              try clear c3b0
              try clear c4
              try clear c6
              try clear c6b0
              try clear c6b1
              try clear p6
              try clear p2
              obtain ⟨x5_3, x6_3, rfl, rfl, HA, HK3, ⟨m3, rfl⟩⟩ := hrel
              cases gk with
              | zero => exact absurd HA.out (by simp [legateref04_Swap.l1])
              | succ k3 =>
                have H := HA.out
                clear HA
                simp only [legateref04_Swap.l1] at H
                by_cases c7 : x6_3 ≤ 4
                · rw [if_pos c7] at H
                  have c7b0 : decide (x6_3 ≤ 4) = true := decide_eq_true c7
                  clear c7
                  by_cases c8 : 0 ≤ x6_3
                  · rw [if_pos c8] at H
                    have c8b0 := eq_true c8
                    have c8b1 : decide (0 ≤ x6_3) = true := decide_eq_true c8
                    clear c8
                    obtain ⟨ji9, hji9⟩ : ∃ j_ : Int, (shl .i64 x3_1 x6_3) = j_ := ⟨_, rfl⟩
                    replace H : (if 0 ≤ (wrap64 (8 - x6_3)) then (legateref04_Swap.l1 k3 x3_1 (Go.bits .xor .i64 x5_3 (Int.tmod (Go.bits .or .i64 (ji9) (shr .i64 x3_1 (wrap64 (8 - x6_3)))) 256)) (wrap64 (x6_3 + 1))) else (none)) = some r := by first | (rw [hji9] at H; exact H) | (simp only [hji9] at H ⊢; exact H)
                    have hji9_ : (IntKind.i64.wrap (x3_1 * 2 ^ min x6_3.toNat 64)) = ji9 := hji9
                    have hji9z : x6_3 ≤ 64 → (IntKind.i64.wrap (x3_1 * 2 ^ x6_3.toNat)) = ji9 := shl_small hji9
                    have hji9y : (wrap64 (x3_1 * 2 ^ min x6_3.toNat 64)) = ji9 := (i64_w _).symm.trans hji9_
                    have hji9x : x6_3 ≤ 64 → (wrap64 (x3_1 * 2 ^ x6_3.toNat)) = ji9 := fun h_ => (i64_w _).symm.trans (hji9z h_)
                    obtain ⟨ji10, hji10⟩ : ∃ j_ : Int, (wrap64 (8 - x6_3)) = j_ := ⟨_, rfl⟩
                    replace H : (if 0 ≤ (ji10) then (legateref04_Swap.l1 k3 x3_1 (Go.bits .xor .i64 x5_3 (Int.tmod (Go.bits .or .i64 (ji9) (shr .i64 x3_1 (ji10))) 256)) (wrap64 (x6_3 + 1))) else (none)) = some r := by first | (rw [hji10] at H; exact H) | (simp only [hji10] at H ⊢; exact H)
                    have hji10w : (IntKind.i64.wrap (8 - x6_3)) = ji10 := (i64_w _).trans hji10
                    by_cases c11 : 0 ≤ (ji10)
                    · rw [if_pos c11] at H
                      have c11b0 := eq_true c11
                      have c11b1 : decide (0 ≤ (ji10)) = true := decide_eq_true c11
                      clear c11
                      obtain ⟨ji12, hji12⟩ : ∃ j_ : Int, (shr .i64 x3_1 (ji10)) = j_ := ⟨_, rfl⟩
                      replace H : (legateref04_Swap.l1 k3 x3_1 (Go.bits .xor .i64 x5_3 (Int.tmod (Go.bits .or .i64 (ji9) (ji12)) 256)) (wrap64 (x6_3 + 1))) = some r := by first | (rw [hji12] at H; exact H) | (simp only [hji12] at H ⊢; exact H)
                      have hji12_ : (x3_1 / 2 ^ min (ji10).toNat 64) = ji12 := hji12
                      have hji12z : (ji10) ≤ 64 → (x3_1 / 2 ^ (ji10).toNat) = ji12 := shr_small hji12
                      have H' := Aside0.mk H
                      clear H
                      go_wp2
                      repeat (go_quiet (fail); try go_wp2)
                      go_roundg k3
                      case measure => have := HK1.out; have := HJ1.out; have := HK3.out; omega
                      case rel => exact ⟨(Go.bits .xor .i64 x5_3 (Int.tmod (Go.bits .or .i64 (ji9) (ji12)) 256)), (wrap64 (x6_3 + 1)), (by first | rfl | (simp; done) | (simp only [← hji9, ← hji12] <;> (first | rfl | simp)) | (simp [*]; done)), (by first | rfl | (simp; done) | (simp [*]; done)), H', ⟨by have := HK1.out; have := HJ1.out; have := HK3.out; omega⟩, by repeat (first | exact Drawn0.refl _ | apply Drawn0.step)⟩
                    · rw [if_neg c11] at H
                      exact absurd H (by simp)
                  · rw [if_neg c8] at H
                    exact absurd H (by simp)
                · rw [if_neg c7] at H
                  have c7b0 : decide (x6_3 ≤ 4) = false := decide_eq_false c7
                  clear c7
                  obtain rfl := Option.some.inj H
                  go_wp2
                  repeat (go_quiet (fail); try go_wp2)
                  go_ret
                  exact ⟨by first | rfl | (simp; done) | (simp [*]; done), by repeat (first | exact Drawn0.refl _ | apply Drawn0.step)⟩

/-! ### legatelaw04_AesTimes: function 3 -/
end Go.Proofs.Ytkgijkfcmbpgpaa.PAll
