-- written by wip/printx.py, a program of this session, over the kit's print
import Derived.Test.YtkgijkfcmbpgpaaDoorGWorld
import Derived.Test.YtkgijkfcmbpgpaaDoorGSha
import Derived.Test.YtkgijkfcmbpgpaaDoorPAllx0
import Derived.Test.YtkgijkfcmbpgpaaDoorPAllx1
import Derived.Test.YtkgijkfcmbpgpaaDoorPAllx2
namespace Go.Proofs.YtkgijkfcmbpgpaaDoor.PAll
open Go.RowKit Go.Proofs.YtkgijkfcmbpgpaaDoorW.PrintWords Go.Proofs.YtkgijkfcmbpgpaaDoorW.PrintLast Go.Proofs.YtkgijkfcmbpgpaaDoorW.PrintMore
open Go.Proofs.YtkgijkfcmbpgpaaDoor.Giv
attribute [local go_sem] max2_int min2_int max_two min_two max_three min_three max_four min_four   -- for this text's walks alone
set_option linter.unusedVariables false
set_option linter.unusedSimpArgs false

/-! ### legatelaw02_ShaParts: function 5 -/
mutual
def legatelaw02_ShaParts.j0 : Nat → ByteArray → Bool → ByteArray → Bool → Option (Bool)
  | 0, _, _, _, _ => none
  | k + 1, x0, x3, x4, x38 => if x38 = true then (some false) else ((sha_Start.f).bind fun t251 => (legatelaw02_ShaParts.l0 k x0 x3 x4 t251 0))
def legatelaw02_ShaParts.l0 : Nat → ByteArray → Bool → ByteArray → ByteArray → Int → Option (Bool)
  | 0, _, _, _, _, _ => none
  | k + 1, x0, x3, x4, x5, x6 => if (wrap64 (x6 + 64)) ≤ (x4.size : Int) then (if 0 ≤ x6 then (if x6 ≤ (wrap64 (x6 + 64)) then ((sha_Block.f x5 (x4.extract (x6 : Int).toNat ((wrap64 (x6 + 64)) : Int).toNat)).bind fun t252 => (if (t252.size : Int) = 32 then (legatelaw02_ShaParts.l0 k x0 x3 x4 t252 (wrap64 (x6 + 64))) else (some false))) else (none)) else (none)) else (if x3 = true then ((sha_Sum.f x0).bind fun t253 => (some (t253.toList == x5.toList))) else (some false))
end
def legatelaw02_ShaParts.f (k : Nat) (a0 : ByteArray) : Option (Bool) := (legatelaw02_works.f k).bind fun t249 => (if t249 = true then (if (a0.size : Int) > 5000 then (some t249) else ((sha_Pad.f k (a0.size : Int)).bind fun t250 => (if a0.size + t250.size ≤ 9223372036854775807 then (if (((a0 ++ t250).size : Int) % 64) = 0 then (if ((a0 ++ t250).size : Int) < (wrap64 ((a0.size : Int) + 9)) then (legatelaw02_ShaParts.j0 k a0 t249 (a0 ++ t250) true) else (legatelaw02_ShaParts.j0 k a0 t249 (a0 ++ t250) (decide (((a0 ++ t250).size : Int) > (wrap64 ((a0.size : Int) + 72)))))) else (legatelaw02_ShaParts.j0 k a0 t249 (a0 ++ t250) true)) else (none)))) else (some false))
theorem legatelaw02_ShaParts.mono_l : ∀ k, (∀ y0 y1 y2 y3, LeO (legatelaw02_ShaParts.j0 k y0 y1 y2 y3) (legatelaw02_ShaParts.j0 (k + 1) y0 y1 y2 y3)) ∧ (∀ y0 y1 y2 y3 y4, LeO (legatelaw02_ShaParts.l0 k y0 y1 y2 y3 y4) (legatelaw02_ShaParts.l0 (k + 1) y0 y1 y2 y3 y4))
  | 0 => ⟨fun _ _ _ _ r h => by simp [legatelaw02_ShaParts.j0] at h, fun _ _ _ _ _ r h => by simp [legatelaw02_ShaParts.l0] at h⟩
  | k + 1 => by
    obtain ⟨ih0, ih1⟩ := legatelaw02_ShaParts.mono_l k
    refine ⟨?_, ?_⟩
    · intro y0 y1 y2 y3
      unfold legatelaw02_ShaParts.j0
      repeat' first
      | (with_reducible exact ih0 _ _ _ _)
      | (with_reducible exact ih1 _ _ _ _ _)
      | (with_reducible exact legatelaw02_works.mono _)
      | (with_reducible exact sha_Pad.mono _ _)
      | (with_reducible exact LeO.refl _)
      | (with_reducible exact LeO.none _)
      | (with_reducible refine LeO.ite ?_ ?_)
      | (with_reducible refine LeO.bind ?_ (fun _ => ?_))
      | exact ih0 _ _ _ _
      | exact ih1 _ _ _ _ _
      | exact legatelaw02_works.mono _
      | exact sha_Pad.mono _ _
      | exact LeO.none _
      | refine LeO.ite ?_ ?_
      | refine LeO.bind ?_ (fun _ => ?_)
    · intro y0 y1 y2 y3 y4
      unfold legatelaw02_ShaParts.l0
      repeat' first
      | (with_reducible exact ih0 _ _ _ _)
      | (with_reducible exact ih1 _ _ _ _ _)
      | (with_reducible exact legatelaw02_works.mono _)
      | (with_reducible exact sha_Pad.mono _ _)
      | (with_reducible exact LeO.refl _)
      | (with_reducible exact LeO.none _)
      | (with_reducible refine LeO.ite ?_ ?_)
      | (with_reducible refine LeO.bind ?_ (fun _ => ?_))
      | exact ih0 _ _ _ _
      | exact ih1 _ _ _ _ _
      | exact legatelaw02_works.mono _
      | exact sha_Pad.mono _ _
      | exact LeO.none _
      | refine LeO.ite ?_ ?_
      | refine LeO.bind ?_ (fun _ => ?_)
theorem legatelaw02_ShaParts.mono : ∀ a0 k, LeO (legatelaw02_ShaParts.f k a0) (legatelaw02_ShaParts.f (k + 1) a0) := by
  intro a0 k
  obtain ⟨ih0, ih1⟩ := legatelaw02_ShaParts.mono_l k
  unfold legatelaw02_ShaParts.f
  repeat' first
      | (with_reducible exact ih0 _ _ _ _)
      | (with_reducible exact ih1 _ _ _ _ _)
      | (with_reducible exact legatelaw02_works.mono _)
      | (with_reducible exact sha_Pad.mono _ _)
      | (with_reducible exact LeO.refl _)
      | (with_reducible exact LeO.none _)
      | (with_reducible refine LeO.ite ?_ ?_)
      | (with_reducible refine LeO.bind ?_ (fun _ => ?_))
      | exact ih0 _ _ _ _
      | exact ih1 _ _ _ _ _
      | exact legatelaw02_works.mono _
      | exact sha_Pad.mono _ _
      | exact LeO.none _
      | refine LeO.ite ?_ ?_
      | refine LeO.bind ?_ (fun _ => ?_)
set_option maxHeartbeats 8000000 in
set_option maxRecDepth 100000 in
theorem legatelaw02_ShaParts.calls (k : Nat) (a0 : ByteArray) (r : Bool) (w : World) {gw : GW w} (h : legatelaw02_ShaParts.f k a0 = some r) :
    Calls Tryd.prog 5 #[.string a0] w fun e w' => e = .returned (.bool r) ∧ Below w.heap.size w w' := by
  have HG := Aside0.mk gw
  clear gw
  have HB := Aside0.mk (Below.refl w.heap.size w)
  have H : ((legatelaw02_works.f k).bind fun t249 => (if t249 = true then (if (a0.size : Int) > 5000 then (some t249) else ((sha_Pad.f k (a0.size : Int)).bind fun t250 => (if a0.size + t250.size ≤ 9223372036854775807 then (if (((a0 ++ t250).size : Int) % 64) = 0 then (if ((a0 ++ t250).size : Int) < (wrap64 ((a0.size : Int) + 9)) then (legatelaw02_ShaParts.j0 k a0 t249 (a0 ++ t250) true) else (legatelaw02_ShaParts.j0 k a0 t249 (a0 ++ t250) (decide (((a0 ++ t250).size : Int) > (wrap64 ((a0.size : Int) + 72)))))) else (legatelaw02_ShaParts.j0 k a0 t249 (a0 ++ t250) true)) else (none)))) else (some false))) = some r := h
  clear h
  replace H := Option.bind_eq_some_iff.mp H
  obtain ⟨t249, A20, H⟩ := H
  replace H : (if t249 = true then (if (a0.size : Int) > 5000 then (some t249) else ((sha_Pad.f k (a0.size : Int)).bind fun t250 => (if a0.size + t250.size ≤ 9223372036854775807 then (if (((a0 ++ t250).size : Int) % 64) = 0 then (if ((a0 ++ t250).size : Int) < (wrap64 ((a0.size : Int) + 9)) then (legatelaw02_ShaParts.j0 k a0 t249 (a0 ++ t250) true) else (legatelaw02_ShaParts.j0 k a0 t249 (a0 ++ t250) (decide (((a0 ++ t250).size : Int) > (wrap64 ((a0.size : Int) + 72)))))) else (legatelaw02_ShaParts.j0 k a0 t249 (a0 ++ t250) true)) else (none)))) else (some false)) = some r := H
  have A2 := Aside0.mk A20
  clear A20
  by_cases c3 : t249 = true
  · subst c3
    have H1 : (if (a0.size : Int) > 5000 then (some true) else ((sha_Pad.f k (a0.size : Int)).bind fun t250 => (if a0.size + t250.size ≤ 9223372036854775807 then (if (((a0 ++ t250).size : Int) % 64) = 0 then (if ((a0 ++ t250).size : Int) < (wrap64 ((a0.size : Int) + 9)) then (legatelaw02_ShaParts.j0 k a0 true (a0 ++ t250) true) else (legatelaw02_ShaParts.j0 k a0 true (a0 ++ t250) (decide (((a0 ++ t250).size : Int) > (wrap64 ((a0.size : Int) + 72)))))) else (legatelaw02_ShaParts.j0 k a0 true (a0 ++ t250) true)) else (none)))) = some r := by rw [if_pos rfl] at H; exact H
    clear H
    have H := H1
    clear H1
    by_cases c4 : (a0.size : Int) > 5000
    · rw [if_pos c4] at H
      have c4b0 : decide (5000 < (a0.size : Int)) = true := decide_eq_true c4
      have c4b0z := c4b0
      (try simp only [ByteArray.size_append, Int.natCast_add] at c4b0z)
      have c4b1 : decide (5000 < a0.size) = true := decide_eq_true (by omega)
      clear c4
      obtain rfl := Option.some.inj H
      go_enter Tryd.func5, Tryd.ntmps5
      go_wp2_with (first | ((with_reducible refine gate_callee (f := 19) rfl ?_); refine goesL_ (some 7) rfl rfl Tryd.func19 (by kernel_rfl) rfl #[] rfl (by (try simp only [List.map_toArray, List.map_cons, List.map_nil]); first | done | rfl | (simp only [List.length_drop, List.length_take]; rfl)) ?_; (with_reducible refine (legatelaw02_works.calls (gw := ?sideG) k  true _ A2.out).mono ?_); (case sideG => exact GW.below HG.out (by repeat (first | (with_reducible first | exact HB.out | apply below_alloc | apply pw_below_drewN | apply below_drew1) | exact HB.out))); rintro e w5 ⟨rfl, hb⟩; refine ⟨_, rfl, ?_⟩; have n0_ := Aside0.mk (below_step (by repeat (first | (with_reducible first | exact HB.out | apply below_alloc | apply pw_below_drewN | apply below_drew1) | exact HB.out)) hb); clear HB; have HB := n0_; clear n0_; (try clear hb); (try clear hb2); (try clear hk); (try clear hi)))
      go_ret
      exact ⟨by first | rfl | (simp [errW_none, errW_some] <;> rfl) | (simp [*, errW_none, errW_some] <;> rfl), by repeat (first | (with_reducible first | exact HB.out | apply below_alloc | apply pw_below_drewN | apply below_drew1) | exact HB.out)⟩
    · rw [if_neg c4] at H
      have c4b0 : decide (5000 < (a0.size : Int)) = false := decide_eq_false c4
      have c4b1 : decide (5000 < a0.size) = false := decide_eq_false (by omega)
      clear c4
      replace H := Option.bind_eq_some_iff.mp H
      obtain ⟨t250, A60, H⟩ := H
      replace H : (if a0.size + t250.size ≤ 9223372036854775807 then (if (((a0 ++ t250).size : Int) % 64) = 0 then (if ((a0 ++ t250).size : Int) < (wrap64 ((a0.size : Int) + 9)) then (legatelaw02_ShaParts.j0 k a0 true (a0 ++ t250) true) else (legatelaw02_ShaParts.j0 k a0 true (a0 ++ t250) (decide (((a0 ++ t250).size : Int) > (wrap64 ((a0.size : Int) + 72)))))) else (legatelaw02_ShaParts.j0 k a0 true (a0 ++ t250) true)) else (none)) = some r := H
      have A6 := Aside0.mk A60
      clear A60
      by_cases c7 : a0.size + t250.size ≤ 9223372036854775807
      · rw [if_pos c7] at H
        have c7b0 := eq_true c7
        have c7b0z := c7b0
        (try simp only [ByteArray.size_append, Int.natCast_add] at c7b0z)
        have c7b1 : decide (a0.size + t250.size ≤ 9223372036854775807) = true := decide_eq_true c7
        have c7b1z := c7b1
        (try simp only [ByteArray.size_append, Int.natCast_add] at c7b1z)
        try have c7b2 : (9223372036854775807 < a0.size + t250.size) = False := eq_false (Nat.not_lt.2 c7)
        have HC8 := Aside0.mk H
        clear H
        go_enter Tryd.func5, Tryd.ntmps5
        go_upto_region 7 with (first | ((with_reducible refine gate_callee (f := 19) rfl ?_); refine goesL_ (some 7) rfl rfl Tryd.func19 (by kernel_rfl) rfl #[] rfl (by (try simp only [List.map_toArray, List.map_cons, List.map_nil]); first | done | rfl | (simp only [List.length_drop, List.length_take]; rfl)) ?_; (with_reducible refine (legatelaw02_works.calls (gw := ?sideG) k  true _ A2.out).mono ?_); (case sideG => exact GW.below HG.out (by repeat (first | (with_reducible first | exact HB.out | apply below_alloc | apply pw_below_drewN | apply below_drew1) | exact HB.out))); rintro e w9 ⟨rfl, hb⟩; refine ⟨_, rfl, ?_⟩; have n0_ := Aside0.mk (below_step (by repeat (first | (with_reducible first | exact HB.out | apply below_alloc | apply pw_below_drewN | apply below_drew1) | exact HB.out)) hb); clear HB; have HB := n0_; clear n0_; (try clear hb); (try clear hb2); (try clear hk); (try clear hi)) | ((with_reducible refine gate_callee (f := 27) rfl ?_); refine goesL_ (some 17) rfl rfl Tryd.func27 (by kernel_rfl) rfl #[.int .i64 (a0.size : Int)] rfl (by (try simp only [List.map_toArray, List.map_cons, List.map_nil]); first | done | rfl | (simp only [List.length_drop, List.length_take]; rfl)) ?_; (with_reducible refine (sha_Pad.calls k (a0.size : Int) t250 _ A6.out).mono ?_); rintro e w10 ⟨rfl, hb⟩; refine ⟨_, rfl, ?_⟩; have n0_ := Aside0.mk (below_step (by repeat (first | (with_reducible first | exact HB.out | apply below_alloc | apply pw_below_drewN | apply below_drew1) | exact HB.out)) hb); clear HB; have HB := n0_; clear n0_; (try clear hb); (try clear hb2); (try clear hk); (try clear hi)))
        (try simp only [Act.put, List.setIfInBounds_toArray, List.set_cons_zero, List.set_cons_succ])
        go_cut [38] (fun v38 wc => ∃ (kq : Nat) (x38_7 : Bool), v38 = .bool x38_7 ∧ Aside0 (legatelaw02_ShaParts.j0 kq a0 true (a0 ++ t250) x38_7 = some r) ∧ Aside0 (kq ≤ k) ∧ Aside0 (Below w.heap.size w wc))
        case first =>
          have H := HC8.out
          clear HC8
          by_cases c11 : (((a0 ++ t250).size : Int) % 64) = 0
          · rw [if_pos c11] at H
            have c11b0 : ((((a0 ++ t250).size : Int) % 64) == 0) = true := beq_iff_eq.mpr c11
            have c11b0z := c11b0
            (try simp only [ByteArray.size_append, Int.natCast_add] at c11b0z)
            have c11b1 : ((((a0 ++ t250).size : Int) % 64) != 0) = false := bne_eq_false_iff_eq.mpr c11
            have c11b1z := c11b1
            (try simp only [ByteArray.size_append, Int.natCast_add] at c11b1z)
            clear c11
            (first | rw [c11b0] | (simp only [i64_w, i32_w]; rw [c11b0]) | skip)
            by_cases c12 : ((a0 ++ t250).size : Int) < (wrap64 ((a0.size : Int) + 9))
            · rw [if_pos c12] at H
              have c12b0 : decide (((a0 ++ t250).size : Int) < (wrap64 ((a0.size : Int) + 9))) = true := decide_eq_true c12
              have c12b0z := c12b0
              (try simp only [ByteArray.size_append, Int.natCast_add] at c12b0z)
              clear c12
              have H' := Aside0.mk H
              clear H
              go_wp2
              go_meet
              case rel => exact ⟨_, (true), (by first | rfl | (simp; done) | (simp [*]; done)), H', ⟨by first | omega | exact Nat.le_refl _⟩, ⟨by repeat (first | (with_reducible first | exact HB.out | apply below_alloc | apply pw_below_drewN | apply below_drew1) | exact HB.out)⟩⟩
            · rw [if_neg c12] at H
              have c12b0 : decide (((a0 ++ t250).size : Int) < (wrap64 ((a0.size : Int) + 9))) = false := decide_eq_false c12
              have c12b0z := c12b0
              (try simp only [ByteArray.size_append, Int.natCast_add] at c12b0z)
              clear c12
              have H' := Aside0.mk H
              clear H
              go_wp2
              go_meet
              case rel => exact ⟨_, (decide (((a0 ++ t250).size : Int) > (wrap64 ((a0.size : Int) + 72)))), (by first | rfl | (simp; done) | (simp [*]; done)), H', ⟨by first | omega | exact Nat.le_refl _⟩, ⟨by repeat (first | (with_reducible first | exact HB.out | apply below_alloc | apply pw_below_drewN | apply below_drew1) | exact HB.out)⟩⟩
          · rw [if_neg c11] at H
            have c11b0 : ((((a0 ++ t250).size : Int) % 64) == 0) = false := beq_eq_false_iff_ne.mpr c11
            have c11b0z := c11b0
            (try simp only [ByteArray.size_append, Int.natCast_add] at c11b0z)
            have c11b1 : ((((a0 ++ t250).size : Int) % 64) != 0) = true := bne_iff_ne.mpr c11
            have c11b1z := c11b1
            (try simp only [ByteArray.size_append, Int.natCast_add] at c11b1z)
            (first | rw [c11b0] | (simp only [i64_w, i32_w]; rw [c11b0]) | skip)
            have H' := Aside0.mk H
            clear H
            go_wp2
            go_meet
            case rel => exact ⟨_, (true), (by first | rfl | (simp; done) | (simp [*]; done)), H', ⟨by first | omega | exact Nat.le_refl _⟩, ⟨by repeat (first | (with_reducible first | exact HB.out | apply below_alloc | apply pw_below_drewN | apply below_drew1) | exact HB.out)⟩⟩
        case rest =>
          clear HC8
          try clear c1
          try clear c2
          try clear p2
          try clear c3
          try clear c4
          try clear c4b0
          try clear c4b1
          try clear c5
          try clear p6
          try clear c7
          try clear c7b0
          try clear c7b1
          try clear c7b2
          try clear c11
          try clear c11b0
          try clear c11b1
          try clear c12
          try clear c12b0
          obtain ⟨kq, x38_7, rfl, HA, HJ7, HB⟩ := hcut
          cases kq with
          | zero => exact absurd HA.out (by simp [legatelaw02_ShaParts.j0])
          | succ kj7 =>
            have H := HA.out
            clear HA
            simp only [legatelaw02_ShaParts.j0] at H
            by_cases c13 : x38_7 = true
            · subst c13
              have H1 : (some false) = some r := by rw [if_pos rfl] at H; exact H
              clear H
              have H := H1
              clear H1
              obtain rfl := Option.some.inj H
              go_wp2
              go_ret
              exact ⟨by first | rfl | (simp [errW_none, errW_some] <;> rfl) | (simp [*, errW_none, errW_some] <;> rfl), by repeat (first | (with_reducible first | exact HB.out | apply below_alloc | apply pw_below_drewN | apply below_drew1) | exact HB.out)⟩
            · replace c13 := Bool.eq_false_iff.mpr c13
              subst c13
              have H1 : ((sha_Start.f).bind fun t251 => (legatelaw02_ShaParts.l0 kj7 a0 true (a0 ++ t250) t251 0)) = some r := by rw [if_neg (show ¬ (false = true) by decide)] at H; exact H
              clear H
              have H := H1
              clear H1
              replace H := Option.bind_eq_some_iff.mp H
              obtain ⟨t251, A140, H⟩ := H
              replace H : (legatelaw02_ShaParts.l0 kj7 a0 true (a0 ++ t250) t251 0) = some r := H
              have A14 := Aside0.mk A140
              clear A140
              have H' := Aside0.mk H
              clear H
              go_wp2_with (first | ((with_reducible refine gate_callee (f := 25) rfl ?_); refine goesL_ (some 39) rfl rfl Tryd.func25 (by kernel_rfl) rfl #[] rfl (by (try simp only [List.map_toArray, List.map_cons, List.map_nil]); first | done | rfl | (simp only [List.length_drop, List.length_take]; rfl)) ?_; (with_reducible refine (sha_Start.calls (gw := ?sideG)  t251 _ A14.out).mono ?_); (case sideG => exact GW.below HG.out (by repeat (first | (with_reducible first | exact HB.out | apply below_alloc | apply pw_below_drewN | apply below_drew1) | exact HB.out))); rintro e w15 ⟨rfl, hb⟩; refine ⟨_, rfl, ?_⟩; have n0_ := Aside0.mk (below_step (by repeat (first | (with_reducible first | exact HB.out | apply below_alloc | apply pw_below_drewN | apply below_drew1) | exact HB.out)) hb); clear HB; have HB := n0_; clear n0_; (try clear hb); (try clear hb2); (try clear hk); (try clear hi)))
              go_loopg [5, 6] kj7 (fun kq v5 v6 w' => ∃ (x5_2 : ByteArray) (x6_2 : Int), v5 = .string x5_2 ∧ v6 = .int .i64 x6_2 ∧ Aside0 (legatelaw02_ShaParts.l0 kq a0 true (a0 ++ t250) x5_2 x6_2 = some r) ∧ Aside0 (kq ≤ kj7) ∧ Aside0 (Below w.heap.size w w'))
              case atStart => exact ⟨(t251), (0), (by first | rfl | (simp; done) | (simp [*]; done)), (by first | rfl | (simp; done) | (simp [*]; done)), H', ⟨Nat.le_refl _⟩, ⟨by repeat (first | (with_reducible first | exact HB.out | apply below_alloc | apply pw_below_drewN | apply below_drew1) | exact HB.out)⟩⟩
              case round =>
                clear H'
                try clear c1
                try clear c2
                try clear p2
                try clear c3
                try clear c4
                try clear c4b0
                try clear c4b1
                try clear c5
                try clear p6
                try clear c7
                try clear c7b0
                try clear c7b1
                try clear c7b2
                try clear c11
                try clear c11b0
                try clear c11b1
                try clear c12
                try clear c12b0
                try clear c13
                try clear p2
                try clear p6
                obtain ⟨x5_2, x6_2, rfl, rfl, HA, HK2, HB⟩ := hrel
                cases gk with
                | zero => exact absurd HA.out (by simp [legatelaw02_ShaParts.l0])
                | succ k2 =>
                  have H := HA.out
                  clear HA
                  simp only [legatelaw02_ShaParts.l0] at H
                  by_cases c16 : (wrap64 (x6_2 + 64)) ≤ ((a0 ++ t250).size : Int)
                  · rw [if_pos c16] at H
                    have c16b0 : decide ((wrap64 (x6_2 + 64)) ≤ ((a0 ++ t250).size : Int)) = true := decide_eq_true c16
                    have c16b0z := c16b0
                    (try simp only [ByteArray.size_append, Int.natCast_add] at c16b0z)
                    clear c16
                    by_cases c17 : 0 ≤ x6_2
                    · rw [if_pos c17] at H
                      have c17b0 := eq_true c17
                      have c17b0z := c17b0
                      (try simp only [ByteArray.size_append, Int.natCast_add] at c17b0z)
                      have c17b1 : decide (0 ≤ x6_2) = true := decide_eq_true c17
                      have c17b1z := c17b1
                      (try simp only [ByteArray.size_append, Int.natCast_add] at c17b1z)
                      clear c17
                      by_cases c18 : x6_2 ≤ (wrap64 (x6_2 + 64))
                      · rw [if_pos c18] at H
                        have c18b0 := eq_true c18
                        have c18b1 : decide (x6_2 ≤ (wrap64 (x6_2 + 64))) = true := decide_eq_true c18
                        have c19b0 := eq_true (of_decide_eq_true (by first | (with_reducible assumption) | assumption) : (wrap64 (x6_2 + 64)) ≤ ((a0 ++ t250).size : Int))
                        have c19b0z := c19b0
                        (try simp only [ByteArray.size_append, Int.natCast_add] at c19b0z)
                        replace H := Option.bind_eq_some_iff.mp H
                        obtain ⟨t252, A200, H⟩ := H
                        replace H : (if (t252.size : Int) = 32 then (legatelaw02_ShaParts.l0 k2 a0 true (a0 ++ t250) t252 (wrap64 (x6_2 + 64))) else (some false)) = some r := H
                        have A20 := Aside0.mk A200
                        clear A200
                        by_cases c21 : (t252.size : Int) = 32
                        · rw [if_pos c21] at H
                          have c21b0 : ((t252.size : Int) == 32) = true := beq_iff_eq.mpr c21
                          have c21b1 : ((t252.size : Int) != 32) = false := bne_eq_false_iff_eq.mpr c21
                          clear c21
                          have H' := Aside0.mk H
                          clear H
                          go_wp2_with (first | ((with_reducible refine gate_callee (f := 22) rfl ?_); refine goesL_ (some 53) rfl rfl Tryd.func22 (by kernel_rfl) rfl #[.string x5_2, .string ((a0 ++ t250).extract (x6_2 : Int).toNat ((wrap64 (x6_2 + 64)) : Int).toNat)] rfl (by (try simp only [List.map_toArray, List.map_cons, List.map_nil]); first | done | rfl | (simp only [List.length_drop, List.length_take]; rfl)) ?_; (with_reducible refine (sha_Block.calls (gw := ?sideG) x5_2 ((a0 ++ t250).extract (x6_2 : Int).toNat ((wrap64 (x6_2 + 64)) : Int).toNat) t252 _ A20.out).mono ?_); (case sideG => exact GW.below HG.out (by repeat (first | (with_reducible first | exact HB.out | apply below_alloc | apply pw_below_drewN | apply below_drew1) | exact HB.out))); rintro e w22 ⟨rfl, hb⟩; refine ⟨_, rfl, ?_⟩; have n0_ := Aside0.mk (below_step (by repeat (first | (with_reducible first | exact HB.out | apply below_alloc | apply pw_below_drewN | apply below_drew1) | exact HB.out)) hb); clear HB; have HB := n0_; clear n0_; (try clear hb); (try clear hb2); (try clear hk); (try clear hi)))
                          go_roundg k2
                          case measure => have := HJ7.out; have := HK2.out; omega
                          case rel => exact ⟨(t252), (wrap64 (x6_2 + 64)), (by first | rfl | (simp; done) | (simp [*]; done)), (by first | rfl | (simp; done) | (simp [*]; done)), H', ⟨by have := HJ7.out; have := HK2.out; omega⟩, ⟨by repeat (first | (with_reducible first | exact HB.out | apply below_alloc | apply pw_below_drewN | apply below_drew1) | exact HB.out)⟩⟩
                        · rw [if_neg c21] at H
                          have c21b0 : ((t252.size : Int) == 32) = false := beq_eq_false_iff_ne.mpr c21
                          have c21b1 : ((t252.size : Int) != 32) = true := bne_iff_ne.mpr c21
                          obtain rfl := Option.some.inj H
                          go_wp2_with (first | ((with_reducible refine gate_callee (f := 22) rfl ?_); refine goesL_ (some 53) rfl rfl Tryd.func22 (by kernel_rfl) rfl #[.string x5_2, .string ((a0 ++ t250).extract (x6_2 : Int).toNat ((wrap64 (x6_2 + 64)) : Int).toNat)] rfl (by (try simp only [List.map_toArray, List.map_cons, List.map_nil]); first | done | rfl | (simp only [List.length_drop, List.length_take]; rfl)) ?_; (with_reducible refine (sha_Block.calls (gw := ?sideG) x5_2 ((a0 ++ t250).extract (x6_2 : Int).toNat ((wrap64 (x6_2 + 64)) : Int).toNat) t252 _ A20.out).mono ?_); (case sideG => exact GW.below HG.out (by repeat (first | (with_reducible first | exact HB.out | apply below_alloc | apply pw_below_drewN | apply below_drew1) | exact HB.out))); rintro e w23 ⟨rfl, hb⟩; refine ⟨_, rfl, ?_⟩; have n0_ := Aside0.mk (below_step (by repeat (first | (with_reducible first | exact HB.out | apply below_alloc | apply pw_below_drewN | apply below_drew1) | exact HB.out)) hb); clear HB; have HB := n0_; clear n0_; (try clear hb); (try clear hb2); (try clear hk); (try clear hi)))
                          go_ret
                          exact ⟨by first | rfl | (simp [errW_none, errW_some] <;> rfl) | (simp [*, errW_none, errW_some] <;> rfl), by repeat (first | (with_reducible first | exact HB.out | apply below_alloc | apply pw_below_drewN | apply below_drew1) | exact HB.out)⟩
                      · rw [if_neg c18] at H
                        exact absurd H (by simp)
                    · rw [if_neg c17] at H
                      exact absurd H (by simp)
                  · rw [if_neg c16] at H
                    have c16b0 : decide ((wrap64 (x6_2 + 64)) ≤ ((a0 ++ t250).size : Int)) = false := decide_eq_false c16
                    have c16b0z := c16b0
                    (try simp only [ByteArray.size_append, Int.natCast_add] at c16b0z)
                    clear c16
                    by_cases c24 : true = true
                    · clear c24
                      have H1 : ((sha_Sum.f a0).bind fun t253 => (some (t253.toList == x5_2.toList))) = some r := by first | (rw [if_pos rfl] at H; exact H) | (rw [if_pos trivial] at H; exact H) | simpa using H
                      clear H
                      have H := H1
                      clear H1
                      replace H := Option.bind_eq_some_iff.mp H
                      obtain ⟨t253, A250, H⟩ := H
                      replace H : (some (t253.toList == x5_2.toList)) = some r := H
                      have A25 := Aside0.mk A250
                      clear A250
                      obtain rfl := Option.some.inj H
                      go_wp2_with (first | (go_at_call 20; (with_reducible refine (sha_Sum.calls (gw := ?sideG) a0 t253 _ A25.out).mono ?_); (case sideG => exact GW.below HG.out (by repeat (first | (with_reducible first | exact HB.out | apply below_alloc | apply pw_below_drewN | apply below_drew1) | exact HB.out))); rintro e w26 ⟨rfl, hb⟩; have n0_ := Aside0.mk (below_step (by repeat (first | (with_reducible first | exact HB.out | apply below_alloc | apply pw_below_drewN | apply below_drew1) | exact HB.out)) hb); clear HB; have HB := n0_; clear n0_; (try clear hb); (try clear hb2); (try clear hk); (try clear hi)))
                      go_ret
                      exact ⟨by first | rfl | (simp [errW_none, errW_some] <;> rfl) | (simp [*, errW_none, errW_some] <;> rfl), by repeat (first | (with_reducible first | exact HB.out | apply below_alloc | apply pw_below_drewN | apply below_drew1) | exact HB.out)⟩
                    · exact absurd rfl c24
      · rw [if_neg c7] at H
        exact absurd H (by simp)
  · replace c3 := Bool.eq_false_iff.mpr c3
    subst c3
    have H1 : (some false) = some r := by rw [if_neg (show ¬ (false = true) by decide)] at H; exact H
    clear H
    have H := H1
    clear H1
    obtain rfl := Option.some.inj H
    go_enter Tryd.func5, Tryd.ntmps5
    go_wp2_with (first | ((with_reducible refine gate_callee (f := 19) rfl ?_); refine goesL_ (some 7) rfl rfl Tryd.func19 (by kernel_rfl) rfl #[] rfl (by (try simp only [List.map_toArray, List.map_cons, List.map_nil]); first | done | rfl | (simp only [List.length_drop, List.length_take]; rfl)) ?_; (with_reducible refine (legatelaw02_works.calls (gw := ?sideG) k  false _ A2.out).mono ?_); (case sideG => exact GW.below HG.out (by repeat (first | (with_reducible first | exact HB.out | apply below_alloc | apply pw_below_drewN | apply below_drew1) | exact HB.out))); rintro e w27 ⟨rfl, hb⟩; refine ⟨_, rfl, ?_⟩; have n0_ := Aside0.mk (below_step (by repeat (first | (with_reducible first | exact HB.out | apply below_alloc | apply pw_below_drewN | apply below_drew1) | exact HB.out)) hb); clear HB; have HB := n0_; clear n0_; (try clear hb); (try clear hb2); (try clear hk); (try clear hi)))
    go_ret
    exact ⟨by first | rfl | (simp [errW_none, errW_some] <;> rfl) | (simp [*, errW_none, errW_some] <;> rfl), by repeat (first | (with_reducible first | exact HB.out | apply below_alloc | apply pw_below_drewN | apply below_drew1) | exact HB.out)⟩

/-- THE ONE PURE STATEMENT of legatelaw02_ShaParts: yours. -/
def legatelaw02_ShaParts.Pure : Prop := ∀ (a0 : ByteArray), a0.size ≤ 140737488351232 → ∃ k, legatelaw02_ShaParts.f k a0 = some true
theorem legatelaw02_ShaParts.walk (P : legatelaw02_ShaParts.Pure) (a0 : ByteArray) (w : World) (w0 : a0.size ≤ 140737488351232) {gw : GW w} :
    Calls Tryd.prog 5 #[.string a0] w fun e w' => e = .returned (.bool true) ∧ Below w.heap.size w w' := by
  obtain ⟨k, h⟩ := P a0 w0
  refine (legatelaw02_ShaParts.calls (gw := gw) k a0 true w h).mono ?_
  rintro e w' ⟨rfl, hd⟩
  exact ⟨rfl, hd⟩

/-! ### legatelaw02_ShaPads: function 6 -/
def legatelaw02_ShaPads.j0 : Nat → Int → Int → Bool → Bool → Option (Bool)
  | 0, _, _, _, _ => none
  | k + 1, x0, x1, x5, x24 => if x24 = true then (if x5 = true then (if x0 ≥ 0 then (some true) else ((sha_Pad.f k x0).bind fun t255 => (some (t255.toList == ([] : List UInt8))))) else (some false)) else ((sha_Pad.f k x0).bind fun t256 => ((sha_Pad.f k x1).bind fun t257 => (if x5 = true then (if ((x0 == x1) == (t256.toList == t257.toList)) = true then (if (t256.size : Int) ≥ 9 then (if 0 < (t256.size : Int) then (if (bt t256 0) = 128 then (some ((Int.tmod (wrap64 (x0 + (t256.size : Int))) 64) == 0)) else (some false)) else (none)) else (some false)) else (some false)) else (some false))))
def legatelaw02_ShaPads.f (k : Nat) (a0 : Int) (a1 : Int) : Option (Bool) := (legatelaw02_works.f k).bind fun t254 => (if t254 = true then (if a0 < 0 then (legatelaw02_ShaPads.j0 k a0 a1 t254 true) else (if a1 < 0 then (legatelaw02_ShaPads.j0 k a0 a1 t254 true) else (if a0 > 1152921504606846976 then (legatelaw02_ShaPads.j0 k a0 a1 t254 true) else (legatelaw02_ShaPads.j0 k a0 a1 t254 (decide (a1 > 1152921504606846976)))))) else (some false))
theorem legatelaw02_ShaPads.mono_l : ∀ k, (∀ y0 y1 y2 y3, LeO (legatelaw02_ShaPads.j0 k y0 y1 y2 y3) (legatelaw02_ShaPads.j0 (k + 1) y0 y1 y2 y3))
  | 0 => fun _ _ _ _ r h => by simp [legatelaw02_ShaPads.j0] at h
  | k + 1 => by
    have ih0 := legatelaw02_ShaPads.mono_l k
    · intro y0 y1 y2 y3
      unfold legatelaw02_ShaPads.j0
      repeat' first
      | (with_reducible exact ih0 _ _ _ _)
      | (with_reducible exact legatelaw02_works.mono _)
      | (with_reducible exact sha_Pad.mono _ _)
      | (with_reducible exact LeO.refl _)
      | (with_reducible exact LeO.none _)
      | (with_reducible refine LeO.ite ?_ ?_)
      | (with_reducible refine LeO.bind ?_ (fun _ => ?_))
      | exact ih0 _ _ _ _
      | exact legatelaw02_works.mono _
      | exact sha_Pad.mono _ _
      | exact LeO.none _
      | refine LeO.ite ?_ ?_
      | refine LeO.bind ?_ (fun _ => ?_)
theorem legatelaw02_ShaPads.mono : ∀ a0 a1 k, LeO (legatelaw02_ShaPads.f k a0 a1) (legatelaw02_ShaPads.f (k + 1) a0 a1) := by
  intro a0 a1 k
  have ih0 := legatelaw02_ShaPads.mono_l k
  unfold legatelaw02_ShaPads.f
  repeat' first
      | (with_reducible exact ih0 _ _ _ _)
      | (with_reducible exact legatelaw02_works.mono _)
      | (with_reducible exact sha_Pad.mono _ _)
      | (with_reducible exact LeO.refl _)
      | (with_reducible exact LeO.none _)
      | (with_reducible refine LeO.ite ?_ ?_)
      | (with_reducible refine LeO.bind ?_ (fun _ => ?_))
      | exact ih0 _ _ _ _
      | exact legatelaw02_works.mono _
      | exact sha_Pad.mono _ _
      | exact LeO.none _
      | refine LeO.ite ?_ ?_
      | refine LeO.bind ?_ (fun _ => ?_)
set_option maxHeartbeats 8000000 in
set_option maxRecDepth 100000 in
theorem legatelaw02_ShaPads.calls (k : Nat) (a0 : Int) (a1 : Int) (r : Bool) (w : World) {gw : GW w} (h : legatelaw02_ShaPads.f k a0 a1 = some r) :
    Calls Tryd.prog 6 #[.int .i64 a0, .int .i64 a1] w fun e w' => e = .returned (.bool r) ∧ Below w.heap.size w w' := by
  have HG := Aside0.mk gw
  clear gw
  have HB := Aside0.mk (Below.refl w.heap.size w)
  have H : ((legatelaw02_works.f k).bind fun t254 => (if t254 = true then (if a0 < 0 then (legatelaw02_ShaPads.j0 k a0 a1 t254 true) else (if a1 < 0 then (legatelaw02_ShaPads.j0 k a0 a1 t254 true) else (if a0 > 1152921504606846976 then (legatelaw02_ShaPads.j0 k a0 a1 t254 true) else (legatelaw02_ShaPads.j0 k a0 a1 t254 (decide (a1 > 1152921504606846976)))))) else (some false))) = some r := h
  clear h
  replace H := Option.bind_eq_some_iff.mp H
  obtain ⟨t254, A30, H⟩ := H
  replace H : (if t254 = true then (if a0 < 0 then (legatelaw02_ShaPads.j0 k a0 a1 t254 true) else (if a1 < 0 then (legatelaw02_ShaPads.j0 k a0 a1 t254 true) else (if a0 > 1152921504606846976 then (legatelaw02_ShaPads.j0 k a0 a1 t254 true) else (legatelaw02_ShaPads.j0 k a0 a1 t254 (decide (a1 > 1152921504606846976)))))) else (some false)) = some r := H
  have A3 := Aside0.mk A30
  clear A30
  by_cases c4 : t254 = true
  · subst c4
    have H1 : (if a0 < 0 then (legatelaw02_ShaPads.j0 k a0 a1 true true) else (if a1 < 0 then (legatelaw02_ShaPads.j0 k a0 a1 true true) else (if a0 > 1152921504606846976 then (legatelaw02_ShaPads.j0 k a0 a1 true true) else (legatelaw02_ShaPads.j0 k a0 a1 true (decide (a1 > 1152921504606846976)))))) = some r := by rw [if_pos rfl] at H; exact H
    clear H
    have H := H1
    clear H1
    have HC5 := Aside0.mk H
    clear H
    go_enter Tryd.func6, Tryd.ntmps6
    go_upto_region 4 with (first | ((with_reducible refine gate_callee (f := 19) rfl ?_); refine goesL_ (some 8) rfl rfl Tryd.func19 (by kernel_rfl) rfl #[] rfl (by (try simp only [List.map_toArray, List.map_cons, List.map_nil]); first | done | rfl | (simp only [List.length_drop, List.length_take]; rfl)) ?_; (with_reducible refine (legatelaw02_works.calls (gw := ?sideG) k  true _ A3.out).mono ?_); (case sideG => exact GW.below HG.out (by repeat (first | (with_reducible first | exact HB.out | apply below_alloc | apply pw_below_drewN | apply below_drew1) | exact HB.out))); rintro e w6 ⟨rfl, hb⟩; refine ⟨_, rfl, ?_⟩; have n0_ := Aside0.mk (below_step (by repeat (first | (with_reducible first | exact HB.out | apply below_alloc | apply pw_below_drewN | apply below_drew1) | exact HB.out)) hb); clear HB; have HB := n0_; clear n0_; (try clear hb); (try clear hb2); (try clear hk); (try clear hi)))
    (try simp only [Act.put, List.setIfInBounds_toArray, List.set_cons_zero, List.set_cons_succ])
    go_cut [24] (fun v24 wc => ∃ (kq : Nat) (x24_4 : Bool), v24 = .bool x24_4 ∧ Aside0 (legatelaw02_ShaPads.j0 kq a0 a1 true x24_4 = some r) ∧ Aside0 (kq ≤ k) ∧ Aside0 (Below w.heap.size w wc))
    case first =>
      have H := HC5.out
      clear HC5
      by_cases c7 : a0 < 0
      · rw [if_pos c7] at H
        have c7b0 : decide (a0 < 0) = true := decide_eq_true c7
        clear c7
        (first | rw [c7b0] | (simp only [i64_w, i32_w]; rw [c7b0]) | skip)
        have H' := Aside0.mk H
        clear H
        go_wp2
        go_meet
        case rel => exact ⟨_, (true), (by first | rfl | (simp; done) | (simp [*]; done)), H', ⟨by first | omega | exact Nat.le_refl _⟩, ⟨by repeat (first | (with_reducible first | exact HB.out | apply below_alloc | apply pw_below_drewN | apply below_drew1) | exact HB.out)⟩⟩
      · rw [if_neg c7] at H
        have c7b0 : decide (a0 < 0) = false := decide_eq_false c7
        clear c7
        (first | rw [c7b0] | (simp only [i64_w, i32_w]; rw [c7b0]) | skip)
        by_cases c8 : a1 < 0
        · rw [if_pos c8] at H
          have c8b0 : decide (a1 < 0) = true := decide_eq_true c8
          clear c8
          have H' := Aside0.mk H
          clear H
          go_wp2
          go_meet
          case rel => exact ⟨_, (true), (by first | rfl | (simp; done) | (simp [*]; done)), H', ⟨by first | omega | exact Nat.le_refl _⟩, ⟨by repeat (first | (with_reducible first | exact HB.out | apply below_alloc | apply pw_below_drewN | apply below_drew1) | exact HB.out)⟩⟩
        · rw [if_neg c8] at H
          have c8b0 : decide (a1 < 0) = false := decide_eq_false c8
          clear c8
          by_cases c9 : a0 > 1152921504606846976
          · rw [if_pos c9] at H
            have c9b0 : decide (1152921504606846976 < a0) = true := decide_eq_true c9
            clear c9
            have H' := Aside0.mk H
            clear H
            go_wp2
            go_meet
            case rel => exact ⟨_, (true), (by first | rfl | (simp; done) | (simp [*]; done)), H', ⟨by first | omega | exact Nat.le_refl _⟩, ⟨by repeat (first | (with_reducible first | exact HB.out | apply below_alloc | apply pw_below_drewN | apply below_drew1) | exact HB.out)⟩⟩
          · rw [if_neg c9] at H
            have c9b0 : decide (1152921504606846976 < a0) = false := decide_eq_false c9
            clear c9
            have H' := Aside0.mk H
            clear H
            go_wp2
            go_meet
            case rel => exact ⟨_, (decide (a1 > 1152921504606846976)), (by first | rfl | (simp; done) | (simp [*]; done)), H', ⟨by first | omega | exact Nat.le_refl _⟩, ⟨by repeat (first | (with_reducible first | exact HB.out | apply below_alloc | apply pw_below_drewN | apply below_drew1) | exact HB.out)⟩⟩
    case rest =>
      clear HC5
      try clear c1
      try clear p2
      try clear c4
      try clear c6
      try clear c7
      try clear c7b0
      try clear c8
      try clear c8b0
      try clear c9
      try clear c9b0
      obtain ⟨kq, x24_4, rfl, HA, HJ4, HB⟩ := hcut
      cases kq with
      | zero => exact absurd HA.out (by simp [legatelaw02_ShaPads.j0])
      | succ kj4 =>
        have H := HA.out
        clear HA
        simp only [legatelaw02_ShaPads.j0] at H
        by_cases c10 : x24_4 = true
        · subst c10
          have H1 : (if true = true then (if a0 ≥ 0 then (some true) else ((sha_Pad.f kj4 a0).bind fun t255 => (some (t255.toList == ([] : List UInt8))))) else (some false)) = some r := by rw [if_pos rfl] at H; exact H
          clear H
          have H := H1
          clear H1
          by_cases c11 : true = true
          · clear c11
            have H1 : (if a0 ≥ 0 then (some true) else ((sha_Pad.f kj4 a0).bind fun t255 => (some (t255.toList == ([] : List UInt8))))) = some r := by first | (rw [if_pos rfl] at H; exact H) | (rw [if_pos trivial] at H; exact H) | simpa using H
            clear H
            have H := H1
            clear H1
            by_cases c12 : a0 ≥ 0
            · rw [if_pos c12] at H
              have c12b0 : decide (0 ≤ a0) = true := decide_eq_true c12
              clear c12
              obtain rfl := Option.some.inj H
              go_wp2
              go_ret
              exact ⟨by first | rfl | (simp [errW_none, errW_some] <;> rfl) | (simp [*, errW_none, errW_some] <;> rfl), by repeat (first | (with_reducible first | exact HB.out | apply below_alloc | apply pw_below_drewN | apply below_drew1) | exact HB.out)⟩
            · rw [if_neg c12] at H
              have c12b0 : decide (0 ≤ a0) = false := decide_eq_false c12
              clear c12
              replace H := Option.bind_eq_some_iff.mp H
              obtain ⟨t255, A130, H⟩ := H
              replace H : (some (t255.toList == ([] : List UInt8))) = some r := H
              have A13 := Aside0.mk A130
              clear A130
              obtain rfl := Option.some.inj H
              go_wp2_with (first | (go_at_call 27; (with_reducible refine (sha_Pad.calls kj4 a0 t255 _ A13.out).mono ?_); rintro e w14 ⟨rfl, hb⟩; have n0_ := Aside0.mk (below_step (by repeat (first | (with_reducible first | exact HB.out | apply below_alloc | apply pw_below_drewN | apply below_drew1) | exact HB.out)) hb); clear HB; have HB := n0_; clear n0_; (try clear hb); (try clear hb2); (try clear hk); (try clear hi)))
              go_ret
              exact ⟨by first | rfl | (simp [errW_none, errW_some] <;> rfl) | (simp [*, errW_none, errW_some] <;> rfl), by repeat (first | (with_reducible first | exact HB.out | apply below_alloc | apply pw_below_drewN | apply below_drew1) | exact HB.out)⟩
          · exact absurd rfl c11
        · replace c10 := Bool.eq_false_iff.mpr c10
          subst c10
          have H1 : ((sha_Pad.f kj4 a0).bind fun t256 => ((sha_Pad.f kj4 a1).bind fun t257 => (if true = true then (if ((a0 == a1) == (t256.toList == t257.toList)) = true then (if (t256.size : Int) ≥ 9 then (if 0 < (t256.size : Int) then (if (bt t256 0) = 128 then (some ((Int.tmod (wrap64 (a0 + (t256.size : Int))) 64) == 0)) else (some false)) else (none)) else (some false)) else (some false)) else (some false)))) = some r := by rw [if_neg (show ¬ (false = true) by decide)] at H; exact H
          clear H
          have H := H1
          clear H1
          replace H := Option.bind_eq_some_iff.mp H
          obtain ⟨t256, A150, H⟩ := H
          replace H : ((sha_Pad.f kj4 a1).bind fun t257 => (if true = true then (if ((a0 == a1) == (t256.toList == t257.toList)) = true then (if (t256.size : Int) ≥ 9 then (if 0 < (t256.size : Int) then (if (bt t256 0) = 128 then (some ((Int.tmod (wrap64 (a0 + (t256.size : Int))) 64) == 0)) else (some false)) else (none)) else (some false)) else (some false)) else (some false))) = some r := H
          have A15 := Aside0.mk A150
          clear A150
          replace H := Option.bind_eq_some_iff.mp H
          obtain ⟨t257, A160, H⟩ := H
          replace H : (if true = true then (if ((a0 == a1) == (t256.toList == t257.toList)) = true then (if (t256.size : Int) ≥ 9 then (if 0 < (t256.size : Int) then (if (bt t256 0) = 128 then (some ((Int.tmod (wrap64 (a0 + (t256.size : Int))) 64) == 0)) else (some false)) else (none)) else (some false)) else (some false)) else (some false)) = some r := H
          have A16 := Aside0.mk A160
          clear A160
          by_cases c17 : true = true
          · clear c17
            have H1 : (if ((a0 == a1) == (t256.toList == t257.toList)) = true then (if (t256.size : Int) ≥ 9 then (if 0 < (t256.size : Int) then (if (bt t256 0) = 128 then (some ((Int.tmod (wrap64 (a0 + (t256.size : Int))) 64) == 0)) else (some false)) else (none)) else (some false)) else (some false)) = some r := by first | (rw [if_pos rfl] at H; exact H) | (rw [if_pos trivial] at H; exact H) | simpa using H
            clear H
            have H := H1
            clear H1
            by_cases c18 : ((a0 == a1) == (t256.toList == t257.toList)) = true
            · rw [if_pos c18] at H
              have c18b0 : ((a0 == a1) == (t256.toList == t257.toList)) = true := c18
              (try (have c18b1 : decide ((a0 == a1) = (t256.toList == t257.toList)) = true := by simpa using c18))
              (try (have c18b2 : ((a0 == a1) == (t256.toList == t257.toList)) = true := by simpa using c18))
              clear c18
              by_cases c19 : (t256.size : Int) ≥ 9
              · rw [if_pos c19] at H
                have c19b0 : decide (9 ≤ (t256.size : Int)) = true := decide_eq_true c19
                have c19b1 : decide (9 ≤ t256.size) = true := decide_eq_true (by omega)
                clear c19
                by_cases c20 : 0 < (t256.size : Int)
                · rw [if_pos c20] at H
                  have c20b0 : decide (0 < (t256.size : Int)) = true := decide_eq_true c20
                  have c20b1 : decide (0 < t256.size) = true := decide_eq_true (by omega)
                  clear c20
                  by_cases c22 : (bt t256 0) = 128
                  · rw [if_pos c22] at H
                    have c22b0 : ((bt t256 0) == 128) = true := beq_iff_eq.mpr c22
                    have c22b1 : ((bt t256 0) != 128) = false := bne_eq_false_iff_eq.mpr c22
                    clear c22
                    obtain rfl := Option.some.inj H
                    go_wp2_with (first | ((with_reducible refine gate_callee (f := 27) rfl ?_); refine goesL_ (some 36) rfl rfl Tryd.func27 (by kernel_rfl) rfl #[.int .i64 a0] rfl (by (try simp only [List.map_toArray, List.map_cons, List.map_nil]); first | done | rfl | (simp only [List.length_drop, List.length_take]; rfl)) ?_; (with_reducible refine (sha_Pad.calls kj4 a0 t256 _ A15.out).mono ?_); rintro e w23 ⟨rfl, hb⟩; refine ⟨_, rfl, ?_⟩; have n0_ := Aside0.mk (below_step (by repeat (first | (with_reducible first | exact HB.out | apply below_alloc | apply pw_below_drewN | apply below_drew1) | exact HB.out)) hb); clear HB; have HB := n0_; clear n0_; (try clear hb); (try clear hb2); (try clear hk); (try clear hi)) | ((with_reducible refine gate_callee (f := 27) rfl ?_); refine goesL_ (some 38) rfl rfl Tryd.func27 (by kernel_rfl) rfl #[.int .i64 a1] rfl (by (try simp only [List.map_toArray, List.map_cons, List.map_nil]); first | done | rfl | (simp only [List.length_drop, List.length_take]; rfl)) ?_; (with_reducible refine (sha_Pad.calls kj4 a1 t257 _ A16.out).mono ?_); rintro e w24 ⟨rfl, hb⟩; refine ⟨_, rfl, ?_⟩; have n0_ := Aside0.mk (below_step (by repeat (first | (with_reducible first | exact HB.out | apply below_alloc | apply pw_below_drewN | apply below_drew1) | exact HB.out)) hb); clear HB; have HB := n0_; clear n0_; (try clear hb); (try clear hb2); (try clear hk); (try clear hi); have p21 : 0 ≤ (0 : Int) := (by omega); have q21 : 0 < t256.size := (by have : (0 : Int) < (t256.size : Int) := of_decide_eq_true (by first | (with_reducible assumption) | assumption); omega); have hx21 : ∀ h : 0 < t256.size, ((t256[0]'h).toNat : Int) = bt t256 0 := bt_at t256 0; clear p21; have qi21 : (0 < (t256.size : Int)) = True := eq_true (of_decide_eq_true (by first | (with_reducible assumption) | assumption)); replace q21 := eq_true q21))
                    go_ret
                    exact ⟨by first | rfl | (simp [errW_none, errW_some] <;> rfl) | (simp [*, errW_none, errW_some] <;> rfl), by repeat (first | (with_reducible first | exact HB.out | apply below_alloc | apply pw_below_drewN | apply below_drew1) | exact HB.out)⟩
                  · rw [if_neg c22] at H
                    have c22b0 : ((bt t256 0) == 128) = false := beq_eq_false_iff_ne.mpr c22
                    have c22b1 : ((bt t256 0) != 128) = true := bne_iff_ne.mpr c22
                    obtain rfl := Option.some.inj H
                    go_wp2_with (first | ((with_reducible refine gate_callee (f := 27) rfl ?_); refine goesL_ (some 36) rfl rfl Tryd.func27 (by kernel_rfl) rfl #[.int .i64 a0] rfl (by (try simp only [List.map_toArray, List.map_cons, List.map_nil]); first | done | rfl | (simp only [List.length_drop, List.length_take]; rfl)) ?_; (with_reducible refine (sha_Pad.calls kj4 a0 t256 _ A15.out).mono ?_); rintro e w25 ⟨rfl, hb⟩; refine ⟨_, rfl, ?_⟩; have n0_ := Aside0.mk (below_step (by repeat (first | (with_reducible first | exact HB.out | apply below_alloc | apply pw_below_drewN | apply below_drew1) | exact HB.out)) hb); clear HB; have HB := n0_; clear n0_; (try clear hb); (try clear hb2); (try clear hk); (try clear hi)) | ((with_reducible refine gate_callee (f := 27) rfl ?_); refine goesL_ (some 38) rfl rfl Tryd.func27 (by kernel_rfl) rfl #[.int .i64 a1] rfl (by (try simp only [List.map_toArray, List.map_cons, List.map_nil]); first | done | rfl | (simp only [List.length_drop, List.length_take]; rfl)) ?_; (with_reducible refine (sha_Pad.calls kj4 a1 t257 _ A16.out).mono ?_); rintro e w26 ⟨rfl, hb⟩; refine ⟨_, rfl, ?_⟩; have n0_ := Aside0.mk (below_step (by repeat (first | (with_reducible first | exact HB.out | apply below_alloc | apply pw_below_drewN | apply below_drew1) | exact HB.out)) hb); clear HB; have HB := n0_; clear n0_; (try clear hb); (try clear hb2); (try clear hk); (try clear hi); have p21 : 0 ≤ (0 : Int) := (by omega); have q21 : 0 < t256.size := (by have : (0 : Int) < (t256.size : Int) := of_decide_eq_true (by first | (with_reducible assumption) | assumption); omega); have hx21 : ∀ h : 0 < t256.size, ((t256[0]'h).toNat : Int) = bt t256 0 := bt_at t256 0; clear p21; have qi21 : (0 < (t256.size : Int)) = True := eq_true (of_decide_eq_true (by first | (with_reducible assumption) | assumption)); replace q21 := eq_true q21))
                    go_ret
                    exact ⟨by first | rfl | (simp [errW_none, errW_some] <;> rfl) | (simp [*, errW_none, errW_some] <;> rfl), by repeat (first | (with_reducible first | exact HB.out | apply below_alloc | apply pw_below_drewN | apply below_drew1) | exact HB.out)⟩
                · rw [if_neg c20] at H
                  exact absurd H (by simp)
              · rw [if_neg c19] at H
                have c19b0 : decide (9 ≤ (t256.size : Int)) = false := decide_eq_false c19
                have c19b1 : decide (9 ≤ t256.size) = false := decide_eq_false (by omega)
                clear c19
                obtain rfl := Option.some.inj H
                go_wp2_with (first | ((with_reducible refine gate_callee (f := 27) rfl ?_); refine goesL_ (some 36) rfl rfl Tryd.func27 (by kernel_rfl) rfl #[.int .i64 a0] rfl (by (try simp only [List.map_toArray, List.map_cons, List.map_nil]); first | done | rfl | (simp only [List.length_drop, List.length_take]; rfl)) ?_; (with_reducible refine (sha_Pad.calls kj4 a0 t256 _ A15.out).mono ?_); rintro e w27 ⟨rfl, hb⟩; refine ⟨_, rfl, ?_⟩; have n0_ := Aside0.mk (below_step (by repeat (first | (with_reducible first | exact HB.out | apply below_alloc | apply pw_below_drewN | apply below_drew1) | exact HB.out)) hb); clear HB; have HB := n0_; clear n0_; (try clear hb); (try clear hb2); (try clear hk); (try clear hi)) | ((with_reducible refine gate_callee (f := 27) rfl ?_); refine goesL_ (some 38) rfl rfl Tryd.func27 (by kernel_rfl) rfl #[.int .i64 a1] rfl (by (try simp only [List.map_toArray, List.map_cons, List.map_nil]); first | done | rfl | (simp only [List.length_drop, List.length_take]; rfl)) ?_; (with_reducible refine (sha_Pad.calls kj4 a1 t257 _ A16.out).mono ?_); rintro e w28 ⟨rfl, hb⟩; refine ⟨_, rfl, ?_⟩; have n0_ := Aside0.mk (below_step (by repeat (first | (with_reducible first | exact HB.out | apply below_alloc | apply pw_below_drewN | apply below_drew1) | exact HB.out)) hb); clear HB; have HB := n0_; clear n0_; (try clear hb); (try clear hb2); (try clear hk); (try clear hi)))
                go_ret
                exact ⟨by first | rfl | (simp [errW_none, errW_some] <;> rfl) | (simp [*, errW_none, errW_some] <;> rfl), by repeat (first | (with_reducible first | exact HB.out | apply below_alloc | apply pw_below_drewN | apply below_drew1) | exact HB.out)⟩
            · rw [if_neg c18] at H
              have c18b0 : ((a0 == a1) == (t256.toList == t257.toList)) = false := by simpa using c18
              (try (have c18b1 : decide ((a0 == a1) = (t256.toList == t257.toList)) = false := by simpa using c18))
              (try (have c18b2 : ((a0 == a1) == (t256.toList == t257.toList)) = false := by simpa using c18))
              (try (have c18b3 : ¬ ((a0 == a1) = (t256.toList == t257.toList)) := by simpa using c18))
              clear c18
              obtain rfl := Option.some.inj H
              go_wp2_with (first | ((with_reducible refine gate_callee (f := 27) rfl ?_); refine goesL_ (some 36) rfl rfl Tryd.func27 (by kernel_rfl) rfl #[.int .i64 a0] rfl (by (try simp only [List.map_toArray, List.map_cons, List.map_nil]); first | done | rfl | (simp only [List.length_drop, List.length_take]; rfl)) ?_; (with_reducible refine (sha_Pad.calls kj4 a0 t256 _ A15.out).mono ?_); rintro e w29 ⟨rfl, hb⟩; refine ⟨_, rfl, ?_⟩; have n0_ := Aside0.mk (below_step (by repeat (first | (with_reducible first | exact HB.out | apply below_alloc | apply pw_below_drewN | apply below_drew1) | exact HB.out)) hb); clear HB; have HB := n0_; clear n0_; (try clear hb); (try clear hb2); (try clear hk); (try clear hi)) | ((with_reducible refine gate_callee (f := 27) rfl ?_); refine goesL_ (some 38) rfl rfl Tryd.func27 (by kernel_rfl) rfl #[.int .i64 a1] rfl (by (try simp only [List.map_toArray, List.map_cons, List.map_nil]); first | done | rfl | (simp only [List.length_drop, List.length_take]; rfl)) ?_; (with_reducible refine (sha_Pad.calls kj4 a1 t257 _ A16.out).mono ?_); rintro e w30 ⟨rfl, hb⟩; refine ⟨_, rfl, ?_⟩; have n0_ := Aside0.mk (below_step (by repeat (first | (with_reducible first | exact HB.out | apply below_alloc | apply pw_below_drewN | apply below_drew1) | exact HB.out)) hb); clear HB; have HB := n0_; clear n0_; (try clear hb); (try clear hb2); (try clear hk); (try clear hi)))
              go_ret
              exact ⟨by first | rfl | (simp [errW_none, errW_some] <;> rfl) | (simp [*, errW_none, errW_some] <;> rfl), by repeat (first | (with_reducible first | exact HB.out | apply below_alloc | apply pw_below_drewN | apply below_drew1) | exact HB.out)⟩
          · exact absurd rfl c17
  · replace c4 := Bool.eq_false_iff.mpr c4
    subst c4
    have H1 : (some false) = some r := by rw [if_neg (show ¬ (false = true) by decide)] at H; exact H
    clear H
    have H := H1
    clear H1
    obtain rfl := Option.some.inj H
    go_enter Tryd.func6, Tryd.ntmps6
    go_wp2_with (first | ((with_reducible refine gate_callee (f := 19) rfl ?_); refine goesL_ (some 8) rfl rfl Tryd.func19 (by kernel_rfl) rfl #[] rfl (by (try simp only [List.map_toArray, List.map_cons, List.map_nil]); first | done | rfl | (simp only [List.length_drop, List.length_take]; rfl)) ?_; (with_reducible refine (legatelaw02_works.calls (gw := ?sideG) k  false _ A3.out).mono ?_); (case sideG => exact GW.below HG.out (by repeat (first | (with_reducible first | exact HB.out | apply below_alloc | apply pw_below_drewN | apply below_drew1) | exact HB.out))); rintro e w33 ⟨rfl, hb⟩; refine ⟨_, rfl, ?_⟩; have n0_ := Aside0.mk (below_step (by repeat (first | (with_reducible first | exact HB.out | apply below_alloc | apply pw_below_drewN | apply below_drew1) | exact HB.out)) hb); clear HB; have HB := n0_; clear n0_; (try clear hb); (try clear hb2); (try clear hk); (try clear hi)))
    go_ret
    exact ⟨by first | rfl | (simp [errW_none, errW_some] <;> rfl) | (simp [*, errW_none, errW_some] <;> rfl), by repeat (first | (with_reducible first | exact HB.out | apply below_alloc | apply pw_below_drewN | apply below_drew1) | exact HB.out)⟩

/-- THE ONE PURE STATEMENT of legatelaw02_ShaPads: yours. -/
def legatelaw02_ShaPads.Pure : Prop := ∀ (a0 : Int) (a1 : Int), (Lit.int .i64 a0).wf = true → (Lit.int .i64 a1).wf = true → ∃ k, legatelaw02_ShaPads.f k a0 a1 = some true
theorem legatelaw02_ShaPads.walk (P : legatelaw02_ShaPads.Pure) (a0 : Int) (a1 : Int) (w : World) (w0 : (Lit.int .i64 a0).wf = true) (w1 : (Lit.int .i64 a1).wf = true) {gw : GW w} :
    Calls Tryd.prog 6 #[.int .i64 a0, .int .i64 a1] w fun e w' => e = .returned (.bool true) ∧ Below w.heap.size w w' := by
  obtain ⟨k, h⟩ := P a0 a1 w0 w1
  refine (legatelaw02_ShaPads.calls (gw := gw) k a0 a1 true w h).mono ?_
  rintro e w' ⟨rfl, hd⟩
  exact ⟨rfl, hd⟩

end Go.Proofs.YtkgijkfcmbpgpaaDoor.PAll
