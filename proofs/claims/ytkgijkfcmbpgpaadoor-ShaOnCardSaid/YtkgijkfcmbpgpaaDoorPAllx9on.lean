-- written by wip/printx.py, a program of this session, over the kit's print
import Derived.Test.YtkgijkfcmbpgpaaDoorGWorld
import Derived.Test.YtkgijkfcmbpgpaaDoorGSha
import Derived.Test.YtkgijkfcmbpgpaaDoorPAllx0
import Derived.Test.YtkgijkfcmbpgpaaDoorPAllx1
import Derived.Test.YtkgijkfcmbpgpaaDoorPAllx2
namespace Go.Proofs.YtkgijkfcmbpgpaaDoor.PAll
open Go.RowKit Go.Proofs.YtkgijkfcmbpgpaaDoorW.PrintWords Go.Proofs.YtkgijkfcmbpgpaaDoorW.PrintLast Go.Proofs.YtkgijkfcmbpgpaaDoorW.PrintMore
open Go.Proofs.YtkgijkfcmbpgpaaDoor.Giv
attribute [local go_sem] max2_int min2_int max_two min_two max_three min_three max_four min_four   -- for this text's walks alone
set_option linter.unusedVariables false
set_option linter.unusedSimpArgs false

/-! ### legatelaw02_ShaOn: function 7 -/
mutual
def legatelaw02_ShaOn.j0 : Nat → ByteArray → ByteArray → Bool → Bool → Option (Bool)
  | 0, _, _, _, _ => none
  | k + 1, x0, x1, x5, x26 => if x26 = true then (some x5) else ((sha_Start.f).bind fun t259 => (if x0.size + x1.size ≤ 9223372036854775807 then ((sha_Pad.f k (wrap64 ((x0.size : Int) + (x1.size : Int)))).bind fun t260 => (if (x0 ++ x1).size + t260.size ≤ 9223372036854775807 then (legatelaw02_ShaOn.l0 k x0 x1 x5 t259 ((x0 ++ x1) ++ t260) 0) else (none))) else (none)))
def legatelaw02_ShaOn.l0 : Nat → ByteArray → ByteArray → Bool → ByteArray → ByteArray → Int → Option (Bool)
  | 0, _, _, _, _, _, _ => none
  | k + 1, x0, x1, x5, x6, x7, x8 => if x8 < (x0.size : Int) then (if 0 ≤ x8 then (if x8 ≤ (wrap64 (x8 + 64)) then (if (wrap64 (x8 + 64)) ≤ (x0.size : Int) then ((sha_Block.f x6 (x0.extract (x8 : Int).toNat ((wrap64 (x8 + 64)) : Int).toNat)).bind fun t261 => (legatelaw02_ShaOn.l0 k x0 x1 x5 t261 x7 (wrap64 (x8 + 64)))) else (none)) else (none)) else (none)) else (legatelaw02_ShaOn.l1 k x0 x1 x5 x6 x7 (x0.size : Int))
def legatelaw02_ShaOn.l1 : Nat → ByteArray → ByteArray → Bool → ByteArray → ByteArray → Int → Option (Bool)
  | 0, _, _, _, _, _, _ => none
  | k + 1, x0, x1, x5, x6, x7, x9 => if (wrap64 (x9 + 64)) ≤ (x7.size : Int) then (if 0 ≤ x9 then (if x9 ≤ (wrap64 (x9 + 64)) then ((sha_Block.f x6 (x7.extract (x9 : Int).toNat ((wrap64 (x9 + 64)) : Int).toNat)).bind fun t262 => (legatelaw02_ShaOn.l1 k x0 x1 x5 t262 x7 (wrap64 (x9 + 64)))) else (none)) else (none)) else (if x5 = true then (if ((x7.size : Int) % 64) = 0 then (if x0.size + x1.size ≤ 9223372036854775807 then ((sha_Sum.f (x0 ++ x1)).bind fun t263 => (if t263.toList = x6.toList then ((sha_Sum.f x1).bind fun t264 => (some ((t264.size : Int) == 32))) else (some false))) else (none)) else (some false)) else (some false))
end
def legatelaw02_ShaOn.f (k : Nat) (a0 : ByteArray) (a1 : ByteArray) : Option (Bool) := (legatelaw02_works.f k).bind fun t258 => (if t258 = true then (if (a0.size : Int) > 1000 then (legatelaw02_ShaOn.j0 k a0 a1 t258 true) else (if (a1.size : Int) > 1000 then (legatelaw02_ShaOn.j0 k a0 a1 t258 true) else (legatelaw02_ShaOn.j0 k a0 a1 t258 (((a0.size : Int) % 64) != 0)))) else (some false))
theorem legatelaw02_ShaOn.mono_l : ∀ k, (∀ y0 y1 y2 y3, LeO (legatelaw02_ShaOn.j0 k y0 y1 y2 y3) (legatelaw02_ShaOn.j0 (k + 1) y0 y1 y2 y3)) ∧ (∀ y0 y1 y2 y3 y4 y5, LeO (legatelaw02_ShaOn.l0 k y0 y1 y2 y3 y4 y5) (legatelaw02_ShaOn.l0 (k + 1) y0 y1 y2 y3 y4 y5)) ∧ (∀ y0 y1 y2 y3 y4 y5, LeO (legatelaw02_ShaOn.l1 k y0 y1 y2 y3 y4 y5) (legatelaw02_ShaOn.l1 (k + 1) y0 y1 y2 y3 y4 y5))
  | 0 => ⟨fun _ _ _ _ r h => by simp [legatelaw02_ShaOn.j0] at h, fun _ _ _ _ _ _ r h => by simp [legatelaw02_ShaOn.l0] at h, fun _ _ _ _ _ _ r h => by simp [legatelaw02_ShaOn.l1] at h⟩
  | k + 1 => by
    obtain ⟨ih0, ih1, ih2⟩ := legatelaw02_ShaOn.mono_l k
    refine ⟨?_, ?_, ?_⟩
    · intro y0 y1 y2 y3
      unfold legatelaw02_ShaOn.j0
      repeat' first
      | (with_reducible exact ih0 _ _ _ _)
      | (with_reducible exact ih1 _ _ _ _ _ _)
      | (with_reducible exact ih2 _ _ _ _ _ _)
      | (with_reducible exact legatelaw02_works.mono _)
      | (with_reducible exact sha_Pad.mono _ _)
      | (with_reducible exact LeO.refl _)
      | (with_reducible exact LeO.none _)
      | (with_reducible refine LeO.ite ?_ ?_)
      | (with_reducible refine LeO.bind ?_ (fun _ => ?_))
      | exact ih0 _ _ _ _
      | exact ih1 _ _ _ _ _ _
      | exact ih2 _ _ _ _ _ _
      | exact legatelaw02_works.mono _
      | exact sha_Pad.mono _ _
      | exact LeO.none _
      | refine LeO.ite ?_ ?_
      | refine LeO.bind ?_ (fun _ => ?_)
    · intro y0 y1 y2 y3 y4 y5
      unfold legatelaw02_ShaOn.l0
      repeat' first
      | (with_reducible exact ih0 _ _ _ _)
      | (with_reducible exact ih1 _ _ _ _ _ _)
      | (with_reducible exact ih2 _ _ _ _ _ _)
      | (with_reducible exact legatelaw02_works.mono _)
      | (with_reducible exact sha_Pad.mono _ _)
      | (with_reducible exact LeO.refl _)
      | (with_reducible exact LeO.none _)
      | (with_reducible refine LeO.ite ?_ ?_)
      | (with_reducible refine LeO.bind ?_ (fun _ => ?_))
      | exact ih0 _ _ _ _
      | exact ih1 _ _ _ _ _ _
      | exact ih2 _ _ _ _ _ _
      | exact legatelaw02_works.mono _
      | exact sha_Pad.mono _ _
      | exact LeO.none _
      | refine LeO.ite ?_ ?_
      | refine LeO.bind ?_ (fun _ => ?_)
    · intro y0 y1 y2 y3 y4 y5
      unfold legatelaw02_ShaOn.l1
      repeat' first
      | (with_reducible exact ih0 _ _ _ _)
      | (with_reducible exact ih1 _ _ _ _ _ _)
      | (with_reducible exact ih2 _ _ _ _ _ _)
      | (with_reducible exact legatelaw02_works.mono _)
      | (with_reducible exact sha_Pad.mono _ _)
      | (with_reducible exact LeO.refl _)
      | (with_reducible exact LeO.none _)
      | (with_reducible refine LeO.ite ?_ ?_)
      | (with_reducible refine LeO.bind ?_ (fun _ => ?_))
      | exact ih0 _ _ _ _
      | exact ih1 _ _ _ _ _ _
      | exact ih2 _ _ _ _ _ _
      | exact legatelaw02_works.mono _
      | exact sha_Pad.mono _ _
      | exact LeO.none _
      | refine LeO.ite ?_ ?_
      | refine LeO.bind ?_ (fun _ => ?_)
theorem legatelaw02_ShaOn.mono : ∀ a0 a1 k, LeO (legatelaw02_ShaOn.f k a0 a1) (legatelaw02_ShaOn.f (k + 1) a0 a1) := by
  intro a0 a1 k
  obtain ⟨ih0, ih1, ih2⟩ := legatelaw02_ShaOn.mono_l k
  unfold legatelaw02_ShaOn.f
  repeat' first
      | (with_reducible exact ih0 _ _ _ _)
      | (with_reducible exact ih1 _ _ _ _ _ _)
      | (with_reducible exact ih2 _ _ _ _ _ _)
      | (with_reducible exact legatelaw02_works.mono _)
      | (with_reducible exact sha_Pad.mono _ _)
      | (with_reducible exact LeO.refl _)
      | (with_reducible exact LeO.none _)
      | (with_reducible refine LeO.ite ?_ ?_)
      | (with_reducible refine LeO.bind ?_ (fun _ => ?_))
      | exact ih0 _ _ _ _
      | exact ih1 _ _ _ _ _ _
      | exact ih2 _ _ _ _ _ _
      | exact legatelaw02_works.mono _
      | exact sha_Pad.mono _ _
      | exact LeO.none _
      | refine LeO.ite ?_ ?_
      | refine LeO.bind ?_ (fun _ => ?_)
set_option maxHeartbeats 8000000 in
set_option maxRecDepth 100000 in
theorem legatelaw02_ShaOn.calls (k : Nat) (a0 : ByteArray) (a1 : ByteArray) (r : Bool) (w : World) {gw : GW w} (h : legatelaw02_ShaOn.f k a0 a1 = some r) :
    Calls Tryd.prog 7 #[.string a0, .string a1] w fun e w' => e = .returned (.bool r) ∧ Below w.heap.size w w' := by
  have HG := Aside0.mk gw
  clear gw
  have HB := Aside0.mk (Below.refl w.heap.size w)
  have H : ((legatelaw02_works.f k).bind fun t258 => (if t258 = true then (if (a0.size : Int) > 1000 then (legatelaw02_ShaOn.j0 k a0 a1 t258 true) else (if (a1.size : Int) > 1000 then (legatelaw02_ShaOn.j0 k a0 a1 t258 true) else (legatelaw02_ShaOn.j0 k a0 a1 t258 (((a0.size : Int) % 64) != 0)))) else (some false))) = some r := h
  clear h
  replace H := Option.bind_eq_some_iff.mp H
  obtain ⟨t258, A30, H⟩ := H
  replace H : (if t258 = true then (if (a0.size : Int) > 1000 then (legatelaw02_ShaOn.j0 k a0 a1 t258 true) else (if (a1.size : Int) > 1000 then (legatelaw02_ShaOn.j0 k a0 a1 t258 true) else (legatelaw02_ShaOn.j0 k a0 a1 t258 (((a0.size : Int) % 64) != 0)))) else (some false)) = some r := H
  have A3 := Aside0.mk A30
  clear A30
  by_cases c4 : t258 = true
  · subst c4
    have H1 : (if (a0.size : Int) > 1000 then (legatelaw02_ShaOn.j0 k a0 a1 true true) else (if (a1.size : Int) > 1000 then (legatelaw02_ShaOn.j0 k a0 a1 true true) else (legatelaw02_ShaOn.j0 k a0 a1 true (((a0.size : Int) % 64) != 0)))) = some r := by rw [if_pos rfl] at H; exact H
    clear H
    have H := H1
    clear H1
    have HC5 := Aside0.mk H
    clear H
    go_enter Tryd.func7, Tryd.ntmps7
    go_upto_region 4 with (first | ((with_reducible refine gate_callee (f := 19) rfl ?_); refine goesL_ (some 10) rfl rfl Tryd.func19 (by kernel_rfl) rfl #[] rfl (by (try simp only [List.map_toArray, List.map_cons, List.map_nil]); first | done | rfl | (simp only [List.length_drop, List.length_take]; rfl)) ?_; (with_reducible refine (legatelaw02_works.calls (gw := ?sideG) k  true _ A3.out).mono ?_); (case sideG => exact GW.below HG.out (by repeat (first | (with_reducible first | exact HB.out | apply below_alloc | apply pw_below_drewN | apply below_drew1) | exact HB.out))); rintro e w6 ⟨rfl, hb⟩; refine ⟨_, rfl, ?_⟩; have n0_ := Aside0.mk (below_step (by repeat (first | (with_reducible first | exact HB.out | apply below_alloc | apply pw_below_drewN | apply below_drew1) | exact HB.out)) hb); clear HB; have HB := n0_; clear n0_; (try clear hb); (try clear hb2); (try clear hk); (try clear hi)))
    (try simp only [Act.put, List.setIfInBounds_toArray, List.set_cons_zero, List.set_cons_succ])
    go_cut [26] (fun v26 wc => ∃ (kq : Nat) (x26_4 : Bool), v26 = .bool x26_4 ∧ Aside0 (legatelaw02_ShaOn.j0 kq a0 a1 true x26_4 = some r) ∧ Aside0 (kq ≤ k) ∧ Aside0 (Below w.heap.size w wc))
    case first =>
      have H := HC5.out
      clear HC5
      by_cases c7 : (a0.size : Int) > 1000
      · rw [if_pos c7] at H
        have c7b0 : decide (1000 < (a0.size : Int)) = true := decide_eq_true c7
        have c7b1 : decide (1000 < a0.size) = true := decide_eq_true (by omega)
        clear c7
        (first | rw [c7b0] | (simp only [i64_w, i32_w]; rw [c7b0]) | skip)
        have H' := Aside0.mk H
        clear H
        go_wp2
        go_meet
        case rel => exact ⟨_, (true), (by first | rfl | (simp; done) | (simp [*]; done)), H', ⟨by first | omega | exact Nat.le_refl _⟩, ⟨by repeat (first | (with_reducible first | exact HB.out | apply below_alloc | apply pw_below_drewN | apply below_drew1) | exact HB.out)⟩⟩
      · rw [if_neg c7] at H
        have c7b0 : decide (1000 < (a0.size : Int)) = false := decide_eq_false c7
        have c7b1 : decide (1000 < a0.size) = false := decide_eq_false (by omega)
        clear c7
        (first | rw [c7b0] | (simp only [i64_w, i32_w]; rw [c7b0]) | skip)
        by_cases c8 : (a1.size : Int) > 1000
        · rw [if_pos c8] at H
          have c8b0 : decide (1000 < (a1.size : Int)) = true := decide_eq_true c8
          have c8b1 : decide (1000 < a1.size) = true := decide_eq_true (by omega)
          clear c8
          have H' := Aside0.mk H
          clear H
          go_wp2
          go_meet
          case rel => exact ⟨_, (true), (by first | rfl | (simp; done) | (simp [*]; done)), H', ⟨by first | omega | exact Nat.le_refl _⟩, ⟨by repeat (first | (with_reducible first | exact HB.out | apply below_alloc | apply pw_below_drewN | apply below_drew1) | exact HB.out)⟩⟩
        · rw [if_neg c8] at H
          have c8b0 : decide (1000 < (a1.size : Int)) = false := decide_eq_false c8
          have c8b1 : decide (1000 < a1.size) = false := decide_eq_false (by omega)
          clear c8
          have H' := Aside0.mk H
          clear H
          go_wp2
          go_meet
          case rel => exact ⟨_, ((((a0.size : Int) % 64) != 0)), (by first | rfl | (simp; done) | (simp [*]; done)), H', ⟨by first | omega | exact Nat.le_refl _⟩, ⟨by repeat (first | (with_reducible first | exact HB.out | apply below_alloc | apply pw_below_drewN | apply below_drew1) | exact HB.out)⟩⟩
    case rest =>
      clear HC5
      try clear c1
      try clear p2
      try clear c4
      try clear c7
      try clear c7b0
      try clear c7b1
      try clear c8
      try clear c8b0
      try clear c8b1
      obtain ⟨kq, x26_4, rfl, HA, HJ4, HB⟩ := hcut
      cases kq with
      | zero => exact absurd HA.out (by simp [legatelaw02_ShaOn.j0])
      | succ kj4 =>
        have H := HA.out
        clear HA
        simp only [legatelaw02_ShaOn.j0] at H
        by_cases c9 : x26_4 = true
        · subst c9
          have H1 : (some true) = some r := by rw [if_pos rfl] at H; exact H
          clear H
          have H := H1
          clear H1
          obtain rfl := Option.some.inj H
          go_wp2
          go_ret
          exact ⟨by first | rfl | (simp [errW_none, errW_some] <;> rfl) | (simp [*, errW_none, errW_some] <;> rfl), by repeat (first | (with_reducible first | exact HB.out | apply below_alloc | apply pw_below_drewN | apply below_drew1) | exact HB.out)⟩
        · replace c9 := Bool.eq_false_iff.mpr c9
          subst c9
          have H1 : ((sha_Start.f).bind fun t259 => (if a0.size + a1.size ≤ 9223372036854775807 then ((sha_Pad.f kj4 (wrap64 ((a0.size : Int) + (a1.size : Int)))).bind fun t260 => (if (a0 ++ a1).size + t260.size ≤ 9223372036854775807 then (legatelaw02_ShaOn.l0 kj4 a0 a1 true t259 ((a0 ++ a1) ++ t260) 0) else (none))) else (none))) = some r := by rw [if_neg (show ¬ (false = true) by decide)] at H; exact H
          clear H
          have H := H1
          clear H1
          replace H := Option.bind_eq_some_iff.mp H
          obtain ⟨t259, A100, H⟩ := H
          replace H : (if a0.size + a1.size ≤ 9223372036854775807 then ((sha_Pad.f kj4 (wrap64 ((a0.size : Int) + (a1.size : Int)))).bind fun t260 => (if (a0 ++ a1).size + t260.size ≤ 9223372036854775807 then (legatelaw02_ShaOn.l0 kj4 a0 a1 true t259 ((a0 ++ a1) ++ t260) 0) else (none))) else (none)) = some r := H
          have A10 := Aside0.mk A100
          clear A100
          by_cases c11 : a0.size + a1.size ≤ 9223372036854775807
          · rw [if_pos c11] at H
            have c11b0 := eq_true c11
            have c11b0z := c11b0
            (try simp only [ByteArray.size_append, Int.natCast_add] at c11b0z)
            have c11b1 : decide (a0.size + a1.size ≤ 9223372036854775807) = true := decide_eq_true c11
            have c11b1z := c11b1
            (try simp only [ByteArray.size_append, Int.natCast_add] at c11b1z)
            try have c11b2 : (9223372036854775807 < a0.size + a1.size) = False := eq_false (Nat.not_lt.2 c11)
            replace H := Option.bind_eq_some_iff.mp H
            obtain ⟨t260, A120, H⟩ := H
            replace H : (if (a0 ++ a1).size + t260.size ≤ 9223372036854775807 then (legatelaw02_ShaOn.l0 kj4 a0 a1 true t259 ((a0 ++ a1) ++ t260) 0) else (none)) = some r := H
            have A12 := Aside0.mk A120
            clear A120
            by_cases c13 : (a0 ++ a1).size + t260.size ≤ 9223372036854775807
            · rw [if_pos c13] at H
              have c13b0 := eq_true c13
              have c13b0z := c13b0
              (try simp only [ByteArray.size_append, Int.natCast_add] at c13b0z)
              have c13b1 : decide ((a0 ++ a1).size + t260.size ≤ 9223372036854775807) = true := decide_eq_true c13
              have c13b1z := c13b1
              (try simp only [ByteArray.size_append, Int.natCast_add] at c13b1z)
              try have c13b2 : (9223372036854775807 < (a0 ++ a1).size + t260.size) = False := eq_false (Nat.not_lt.2 c13)
              have c13b2z := c13b2
              (try simp only [ByteArray.size_append, Int.natCast_add] at c13b2z)
              have H' := Aside0.mk H
              clear H
              have ew : wrap64 ((a0.size : Int) + (a1.size : Int)) = (a0.size : Int) + (a1.size : Int) := by have h_ := of_decide_eq_true c11b1; unfold wrap64; omega
              have A12_ := A12.out
              rw [ew] at A12_
              clear A12 ew
              have A12 := Aside0.mk A12_
              clear A12_
              go_wp2_with (first | ((with_reducible refine gate_callee (f := 25) rfl ?_); refine goesL_ (some 28) rfl rfl Tryd.func25 (by kernel_rfl) rfl #[] rfl (by (try simp only [List.map_toArray, List.map_cons, List.map_nil]); first | done | rfl | (simp only [List.length_drop, List.length_take]; rfl)) ?_; (with_reducible refine (sha_Start.calls (gw := ?sideG)  t259 _ A10.out).mono ?_); (case sideG => exact GW.below HG.out (by repeat (first | (with_reducible first | exact HB.out | apply below_alloc | apply pw_below_drewN | apply below_drew1) | exact HB.out))); rintro e w14 ⟨rfl, hb⟩; refine ⟨_, rfl, ?_⟩; have n0_ := Aside0.mk (below_step (by repeat (first | (with_reducible first | exact HB.out | apply below_alloc | apply pw_below_drewN | apply below_drew1) | exact HB.out)) hb); clear HB; have HB := n0_; clear n0_; (try clear hb); (try clear hb2); (try clear hk); (try clear hi)) | ((with_reducible refine gate_callee (f := 27) rfl ?_); refine goesL_ (some 37) rfl rfl Tryd.func27 (by kernel_rfl) rfl #[.int .i64 ((a0.size : Int) + (a1.size : Int))] rfl (by (try simp only [List.map_toArray, List.map_cons, List.map_nil]); first | done | rfl | (simp only [List.length_drop, List.length_take]; rfl)) ?_; (with_reducible refine (sha_Pad.calls kj4 ((a0.size : Int) + (a1.size : Int)) t260 _ A12.out).mono ?_); rintro e w15 ⟨rfl, hb⟩; refine ⟨_, rfl, ?_⟩; have n0_ := Aside0.mk (below_step (by repeat (first | (with_reducible first | exact HB.out | apply below_alloc | apply pw_below_drewN | apply below_drew1) | exact HB.out)) hb); clear HB; have HB := n0_; clear n0_; (try clear hb); (try clear hb2); (try clear hk); (try clear hi)))
              go_loopg [6, 8] kj4 (fun kq v6 v8 w' => ∃ (x6_2 : ByteArray) (x8_2 : Int), v6 = .string x6_2 ∧ v8 = .int .i64 x8_2 ∧ Aside0 (legatelaw02_ShaOn.l0 kq a0 a1 true x6_2 ((a0 ++ a1) ++ t260) x8_2 = some r) ∧ Aside0 (kq ≤ kj4) ∧ Aside0 (Below w.heap.size w w'))
              case atStart => exact ⟨(t259), (0), (by first | rfl | (simp; done) | (simp [*]; done)), (by first | rfl | (simp; done) | (simp [*]; done)), H', ⟨Nat.le_refl _⟩, ⟨by repeat (first | (with_reducible first | exact HB.out | apply below_alloc | apply pw_below_drewN | apply below_drew1) | exact HB.out)⟩⟩
              case round =>
                clear H'
                try clear c1
                try clear c2
                try clear p2
                try clear c4
                try clear p6
                try clear c7
                try clear c7b0
                try clear c7b1
                try clear c8
                try clear c8b0
                try clear c8b1
                try clear c9
                try clear c11
                try clear c11b0
                try clear c11b1
                try clear c11b2
                try clear c13
                try clear c13b0
                try clear c13b1
                try clear c13b2
                try clear p2
                obtain ⟨x6_2, x8_2, rfl, rfl, HA, HK2, HB⟩ := hrel
                cases gk with
                | zero => exact absurd HA.out (by simp [legatelaw02_ShaOn.l0])
                | succ k2 =>
                  have H := HA.out
                  clear HA
                  simp only [legatelaw02_ShaOn.l0] at H
                  by_cases c16 : x8_2 < (a0.size : Int)
                  · rw [if_pos c16] at H
                    have c16b0 : decide (x8_2 < (a0.size : Int)) = true := decide_eq_true c16
                    clear c16
                    by_cases c17 : 0 ≤ x8_2
                    · rw [if_pos c17] at H
                      have c17b0 := eq_true c17
                      have c17b1 : decide (0 ≤ x8_2) = true := decide_eq_true c17
                      clear c17
                      by_cases c18 : x8_2 ≤ (wrap64 (x8_2 + 64))
                      · rw [if_pos c18] at H
                        have c18b0 := eq_true c18
                        have c18b1 : decide (x8_2 ≤ (wrap64 (x8_2 + 64))) = true := decide_eq_true c18
                        by_cases c19 : (wrap64 (x8_2 + 64)) ≤ (a0.size : Int)
                        · rw [if_pos c19] at H
                          have c19b0 := eq_true c19
                          have c19b1 : decide ((wrap64 (x8_2 + 64)) ≤ (a0.size : Int)) = true := decide_eq_true c19
                          replace H := Option.bind_eq_some_iff.mp H
                          obtain ⟨t261, A200, H⟩ := H
                          replace H : (legatelaw02_ShaOn.l0 k2 a0 a1 true t261 ((a0 ++ a1) ++ t260) (wrap64 (x8_2 + 64))) = some r := H
                          have A20 := Aside0.mk A200
                          clear A200
                          have H' := Aside0.mk H
                          clear H
                          go_wp2_with (first | ((with_reducible refine gate_callee (f := 22) rfl ?_); refine goesL_ (some 51) rfl rfl Tryd.func22 (by kernel_rfl) rfl #[.string x6_2, .string (a0.extract (x8_2 : Int).toNat ((wrap64 (x8_2 + 64)) : Int).toNat)] rfl (by (try simp only [List.map_toArray, List.map_cons, List.map_nil]); first | done | rfl | (simp only [List.length_drop, List.length_take]; rfl)) ?_; (with_reducible refine (sha_Block.calls (gw := ?sideG) x6_2 (a0.extract (x8_2 : Int).toNat ((wrap64 (x8_2 + 64)) : Int).toNat) t261 _ A20.out).mono ?_); (case sideG => exact GW.below HG.out (by repeat (first | (with_reducible first | exact HB.out | apply below_alloc | apply pw_below_drewN | apply below_drew1) | exact HB.out))); rintro e w21 ⟨rfl, hb⟩; refine ⟨_, rfl, ?_⟩; have n0_ := Aside0.mk (below_step (by repeat (first | (with_reducible first | exact HB.out | apply below_alloc | apply pw_below_drewN | apply below_drew1) | exact HB.out)) hb); clear HB; have HB := n0_; clear n0_; (try clear hb); (try clear hb2); (try clear hk); (try clear hi)))
                          go_roundg k2
                          case measure => have := HJ4.out; have := HK2.out; omega
                          case rel => exact ⟨(t261), (wrap64 (x8_2 + 64)), (by first | rfl | (simp; done) | (simp [*]; done)), (by first | rfl | (simp; done) | (simp [*]; done)), H', ⟨by have := HJ4.out; have := HK2.out; omega⟩, ⟨by repeat (first | (with_reducible first | exact HB.out | apply below_alloc | apply pw_below_drewN | apply below_drew1) | exact HB.out)⟩⟩
                        · rw [if_neg c19] at H
                          exact absurd H (by simp)
                      · rw [if_neg c18] at H
                        exact absurd H (by simp)
                    · rw [if_neg c17] at H
                      exact absurd H (by simp)
                  · rw [if_neg c16] at H
                    have c16b0 : decide (x8_2 < (a0.size : Int)) = false := decide_eq_false c16
                    clear c16
                    have H' := Aside0.mk H
                    clear H
                    go_wp2
                    go_loopg [6, 9] k2 (fun kq v6 v9 w' => ∃ (x6_3 : ByteArray) (x9_3 : Int), v6 = .string x6_3 ∧ v9 = .int .i64 x9_3 ∧ Aside0 (legatelaw02_ShaOn.l1 kq a0 a1 true x6_3 ((a0 ++ a1) ++ t260) x9_3 = some r) ∧ Aside0 (kq ≤ k2) ∧ Aside0 (Below w.heap.size w w'))
                    case atStart => exact ⟨(x6_2), ((a0.size : Int)), (by first | rfl | (simp; done) | (simp [*]; done)), (by first | rfl | (simp; done) | (simp [*]; done)), H', ⟨Nat.le_refl _⟩, ⟨by repeat (first | (with_reducible first | exact HB.out | apply below_alloc | apply pw_below_drewN | apply below_drew1) | exact HB.out)⟩⟩
                    case round =>
                      clear H'
                      try clear c1
                      try clear c2
                      try clear p2
                      try clear c4
                      try clear p6
                      try clear c7
                      try clear c7b0
                      try clear c7b1
                      try clear c8
                      try clear c8b0
                      try clear c8b1
                      try clear c9
                      try clear c11
                      try clear c11b0
                      try clear c11b1
                      try clear c11b2
                      try clear c13
                      try clear c13b0
                      try clear c13b1
                      try clear c13b2
                      try clear c16
                      try clear c16b0
                      try clear c17
                      try clear c17b0
                      try clear c17b1
                      try clear c18
                      try clear c18b0
                      try clear c18b1
                      try clear c19
                      try clear c19b0
                      try clear c19b1
                      try clear p2
                      try clear p6
                      obtain ⟨x6_3, x9_3, rfl, rfl, HA, HK3, HB⟩ := hrel
                      cases gk with
                      | zero => exact absurd HA.out (by simp [legatelaw02_ShaOn.l1])
                      | succ k3 =>
                        have H := HA.out
                        clear HA
                        simp only [legatelaw02_ShaOn.l1] at H
                        by_cases c22 : (wrap64 (x9_3 + 64)) ≤ (((a0 ++ a1) ++ t260).size : Int)
                        · rw [if_pos c22] at H
                          have c22b0 : decide ((wrap64 (x9_3 + 64)) ≤ (((a0 ++ a1) ++ t260).size : Int)) = true := decide_eq_true c22
                          have c22b0z := c22b0
                          (try simp only [ByteArray.size_append, Int.natCast_add] at c22b0z)
                          clear c22
                          by_cases c23 : 0 ≤ x9_3
                          · rw [if_pos c23] at H
                            have c23b0 := eq_true c23
                            have c23b0z := c23b0
                            (try simp only [ByteArray.size_append, Int.natCast_add] at c23b0z)
                            have c23b1 : decide (0 ≤ x9_3) = true := decide_eq_true c23
                            have c23b1z := c23b1
                            (try simp only [ByteArray.size_append, Int.natCast_add] at c23b1z)
                            clear c23
                            by_cases c24 : x9_3 ≤ (wrap64 (x9_3 + 64))
                            · rw [if_pos c24] at H
                              have c24b0 := eq_true c24
                              have c24b1 : decide (x9_3 ≤ (wrap64 (x9_3 + 64))) = true := decide_eq_true c24
                              have c25b0 := eq_true (of_decide_eq_true (by first | (with_reducible assumption) | assumption) : (wrap64 (x9_3 + 64)) ≤ (((a0 ++ a1) ++ t260).size : Int))
                              have c25b0z := c25b0
                              (try simp only [ByteArray.size_append, Int.natCast_add] at c25b0z)
                              replace H := Option.bind_eq_some_iff.mp H
                              obtain ⟨t262, A260, H⟩ := H
                              replace H : (legatelaw02_ShaOn.l1 k3 a0 a1 true t262 ((a0 ++ a1) ++ t260) (wrap64 (x9_3 + 64))) = some r := H
                              have A26 := Aside0.mk A260
                              clear A260
                              have H' := Aside0.mk H
                              clear H
                              go_wp2_with (first | ((with_reducible refine gate_callee (f := 22) rfl ?_); refine goesL_ (some 67) rfl rfl Tryd.func22 (by kernel_rfl) rfl #[.string x6_3, .string (((a0 ++ a1) ++ t260).extract (x9_3 : Int).toNat ((wrap64 (x9_3 + 64)) : Int).toNat)] rfl (by (try simp only [List.map_toArray, List.map_cons, List.map_nil]); first | done | rfl | (simp only [List.length_drop, List.length_take]; rfl)) ?_; (with_reducible refine (sha_Block.calls (gw := ?sideG) x6_3 (((a0 ++ a1) ++ t260).extract (x9_3 : Int).toNat ((wrap64 (x9_3 + 64)) : Int).toNat) t262 _ A26.out).mono ?_); (case sideG => exact GW.below HG.out (by repeat (first | (with_reducible first | exact HB.out | apply below_alloc | apply pw_below_drewN | apply below_drew1) | exact HB.out))); rintro e w27 ⟨rfl, hb⟩; refine ⟨_, rfl, ?_⟩; have n0_ := Aside0.mk (below_step (by repeat (first | (with_reducible first | exact HB.out | apply below_alloc | apply pw_below_drewN | apply below_drew1) | exact HB.out)) hb); clear HB; have HB := n0_; clear n0_; (try clear hb); (try clear hb2); (try clear hk); (try clear hi)))
                              go_roundg k3
                              case measure => have := HJ4.out; have := HK2.out; have := HK3.out; omega
                              case rel => exact ⟨(t262), (wrap64 (x9_3 + 64)), (by first | rfl | (simp; done) | (simp [*]; done)), (by first | rfl | (simp; done) | (simp [*]; done)), H', ⟨by have := HJ4.out; have := HK2.out; have := HK3.out; omega⟩, ⟨by repeat (first | (with_reducible first | exact HB.out | apply below_alloc | apply pw_below_drewN | apply below_drew1) | exact HB.out)⟩⟩
                            · rw [if_neg c24] at H
                              exact absurd H (by simp)
                          · rw [if_neg c23] at H
                            exact absurd H (by simp)
                        · rw [if_neg c22] at H
                          have c22b0 : decide ((wrap64 (x9_3 + 64)) ≤ (((a0 ++ a1) ++ t260).size : Int)) = false := decide_eq_false c22
                          have c22b0z := c22b0
                          (try simp only [ByteArray.size_append, Int.natCast_add] at c22b0z)
                          clear c22
                          by_cases c28 : true = true
                          · clear c28
                            have H1 : (if ((((a0 ++ a1) ++ t260).size : Int) % 64) = 0 then (if a0.size + a1.size ≤ 9223372036854775807 then ((sha_Sum.f (a0 ++ a1)).bind fun t263 => (if t263.toList = x6_3.toList then ((sha_Sum.f a1).bind fun t264 => (some ((t264.size : Int) == 32))) else (some false))) else (none)) else (some false)) = some r := by first | (rw [if_pos rfl] at H; exact H) | (rw [if_pos trivial] at H; exact H) | simpa using H
                            clear H
                            have H := H1
                            clear H1
                            by_cases c29 : ((((a0 ++ a1) ++ t260).size : Int) % 64) = 0
                            · rw [if_pos c29] at H
                              have c29b0 : (((((a0 ++ a1) ++ t260).size : Int) % 64) == 0) = true := beq_iff_eq.mpr c29
                              have c29b0z := c29b0
                              (try simp only [ByteArray.size_append, Int.natCast_add] at c29b0z)
                              have c29b1 : (((((a0 ++ a1) ++ t260).size : Int) % 64) != 0) = false := bne_eq_false_iff_eq.mpr c29
                              have c29b1z := c29b1
                              (try simp only [ByteArray.size_append, Int.natCast_add] at c29b1z)
                              clear c29
                              by_cases c30 : a0.size + a1.size ≤ 9223372036854775807
                              · rw [if_pos c30] at H
                                have c30b0 := eq_true c30
                                have c30b0z := c30b0
                                (try simp only [ByteArray.size_append, Int.natCast_add] at c30b0z)
                                have c30b1 : decide (a0.size + a1.size ≤ 9223372036854775807) = true := decide_eq_true c30
                                have c30b1z := c30b1
                                (try simp only [ByteArray.size_append, Int.natCast_add] at c30b1z)
                                try have c30b2 : (9223372036854775807 < a0.size + a1.size) = False := eq_false (Nat.not_lt.2 c30)
                                replace H := Option.bind_eq_some_iff.mp H
                                obtain ⟨t263, A310, H⟩ := H
                                replace H : (if t263.toList = x6_3.toList then ((sha_Sum.f a1).bind fun t264 => (some ((t264.size : Int) == 32))) else (some false)) = some r := H
                                have A31 := Aside0.mk A310
                                clear A310
                                by_cases c32 : t263.toList = x6_3.toList
                                · rw [if_pos c32] at H
                                  have c32b0 : (t263.toList == x6_3.toList) = true := beq_iff_eq.mpr c32
                                  have c32b1 : (t263.toList != x6_3.toList) = false := bne_eq_false_iff_eq.mpr c32
                                  clear c32
                                  replace H := Option.bind_eq_some_iff.mp H
                                  obtain ⟨t264, A330, H⟩ := H
                                  replace H : (some ((t264.size : Int) == 32)) = some r := H
                                  have A33 := Aside0.mk A330
                                  clear A330
                                  obtain rfl := Option.some.inj H
                                  go_wp2_with (first | (go_at_call 20; (with_reducible refine (sha_Sum.calls (gw := ?sideG) (a0 ++ a1) t263 _ A31.out).mono ?_); (case sideG => exact GW.below HG.out (by repeat (first | (with_reducible first | exact HB.out | apply below_alloc | apply pw_below_drewN | apply below_drew1) | exact HB.out))); rintro e w34 ⟨rfl, hb⟩; have n0_ := Aside0.mk (below_step (by repeat (first | (with_reducible first | exact HB.out | apply below_alloc | apply pw_below_drewN | apply below_drew1) | exact HB.out)) hb); clear HB; have HB := n0_; clear n0_; (try clear hb); (try clear hb2); (try clear hk); (try clear hi)) | (go_at_call 20; (with_reducible refine (sha_Sum.calls (gw := ?sideG) a1 t264 _ A33.out).mono ?_); (case sideG => exact GW.below HG.out (by repeat (first | (with_reducible first | exact HB.out | apply below_alloc | apply pw_below_drewN | apply below_drew1) | exact HB.out))); rintro e w35 ⟨rfl, hb⟩; have n0_ := Aside0.mk (below_step (by repeat (first | (with_reducible first | exact HB.out | apply below_alloc | apply pw_below_drewN | apply below_drew1) | exact HB.out)) hb); clear HB; have HB := n0_; clear n0_; (try clear hb); (try clear hb2); (try clear hk); (try clear hi)))
                                  go_ret
                                  exact ⟨by first | rfl | (simp [errW_none, errW_some] <;> rfl) | (simp [*, errW_none, errW_some] <;> rfl), by repeat (first | (with_reducible first | exact HB.out | apply below_alloc | apply pw_below_drewN | apply below_drew1) | exact HB.out)⟩
                                · rw [if_neg c32] at H
                                  have c32b0 : (t263.toList == x6_3.toList) = false := beq_eq_false_iff_ne.mpr c32
                                  have c32b1 : (t263.toList != x6_3.toList) = true := bne_iff_ne.mpr c32
                                  obtain rfl := Option.some.inj H
                                  go_wp2_with (first | (go_at_call 20; (with_reducible refine (sha_Sum.calls (gw := ?sideG) (a0 ++ a1) t263 _ A31.out).mono ?_); (case sideG => exact GW.below HG.out (by repeat (first | (with_reducible first | exact HB.out | apply below_alloc | apply pw_below_drewN | apply below_drew1) | exact HB.out))); rintro e w36 ⟨rfl, hb⟩; have n0_ := Aside0.mk (below_step (by repeat (first | (with_reducible first | exact HB.out | apply below_alloc | apply pw_below_drewN | apply below_drew1) | exact HB.out)) hb); clear HB; have HB := n0_; clear n0_; (try clear hb); (try clear hb2); (try clear hk); (try clear hi)))
                                  go_ret
                                  exact ⟨by first | rfl | (simp [errW_none, errW_some] <;> rfl) | (simp [*, errW_none, errW_some] <;> rfl), by repeat (first | (with_reducible first | exact HB.out | apply below_alloc | apply pw_below_drewN | apply below_drew1) | exact HB.out)⟩
                              · rw [if_neg c30] at H
                                exact absurd H (by simp)
                            · rw [if_neg c29] at H
                              have c29b0 : (((((a0 ++ a1) ++ t260).size : Int) % 64) == 0) = false := beq_eq_false_iff_ne.mpr c29
                              have c29b0z := c29b0
                              (try simp only [ByteArray.size_append, Int.natCast_add] at c29b0z)
                              have c29b1 : (((((a0 ++ a1) ++ t260).size : Int) % 64) != 0) = true := bne_iff_ne.mpr c29
                              have c29b1z := c29b1
                              (try simp only [ByteArray.size_append, Int.natCast_add] at c29b1z)
                              obtain rfl := Option.some.inj H
                              go_wp2
                              go_ret
                              exact ⟨by first | rfl | (simp [errW_none, errW_some] <;> rfl) | (simp [*, errW_none, errW_some] <;> rfl), by repeat (first | (with_reducible first | exact HB.out | apply below_alloc | apply pw_below_drewN | apply below_drew1) | exact HB.out)⟩
                          · exact absurd rfl c28
            · rw [if_neg c13] at H
              exact absurd H (by simp)
          · rw [if_neg c11] at H
            exact absurd H (by simp)
  · replace c4 := Bool.eq_false_iff.mpr c4
    subst c4
    have H1 : (some false) = some r := by rw [if_neg (show ¬ (false = true) by decide)] at H; exact H
    clear H
    have H := H1
    clear H1
    obtain rfl := Option.some.inj H
    go_enter Tryd.func7, Tryd.ntmps7
    go_wp2_with (first | ((with_reducible refine gate_callee (f := 19) rfl ?_); refine goesL_ (some 10) rfl rfl Tryd.func19 (by kernel_rfl) rfl #[] rfl (by (try simp only [List.map_toArray, List.map_cons, List.map_nil]); first | done | rfl | (simp only [List.length_drop, List.length_take]; rfl)) ?_; (with_reducible refine (legatelaw02_works.calls (gw := ?sideG) k  false _ A3.out).mono ?_); (case sideG => exact GW.below HG.out (by repeat (first | (with_reducible first | exact HB.out | apply below_alloc | apply pw_below_drewN | apply below_drew1) | exact HB.out))); rintro e w37 ⟨rfl, hb⟩; refine ⟨_, rfl, ?_⟩; have n0_ := Aside0.mk (below_step (by repeat (first | (with_reducible first | exact HB.out | apply below_alloc | apply pw_below_drewN | apply below_drew1) | exact HB.out)) hb); clear HB; have HB := n0_; clear n0_; (try clear hb); (try clear hb2); (try clear hk); (try clear hi)))
    go_ret
    exact ⟨by first | rfl | (simp [errW_none, errW_some] <;> rfl) | (simp [*, errW_none, errW_some] <;> rfl), by repeat (first | (with_reducible first | exact HB.out | apply below_alloc | apply pw_below_drewN | apply below_drew1) | exact HB.out)⟩

/-- THE ONE PURE STATEMENT of legatelaw02_ShaOn: yours. -/
def legatelaw02_ShaOn.Pure : Prop := ∀ (a0 : ByteArray) (a1 : ByteArray), a0.size ≤ 140737488351232 → a1.size ≤ 140737488351232 → ∃ k, legatelaw02_ShaOn.f k a0 a1 = some true
theorem legatelaw02_ShaOn.walk (P : legatelaw02_ShaOn.Pure) (a0 : ByteArray) (a1 : ByteArray) (w : World) (w0 : a0.size ≤ 140737488351232) (w1 : a1.size ≤ 140737488351232) {gw : GW w} :
    Calls Tryd.prog 7 #[.string a0, .string a1] w fun e w' => e = .returned (.bool true) ∧ Below w.heap.size w w' := by
  obtain ⟨k, h⟩ := P a0 a1 w0 w1
  refine (legatelaw02_ShaOn.calls (gw := gw) k a0 a1 true w h).mono ?_
  rintro e w' ⟨rfl, hd⟩
  exact ⟨rfl, hd⟩



end Go.Proofs.YtkgijkfcmbpgpaaDoor.PAll
