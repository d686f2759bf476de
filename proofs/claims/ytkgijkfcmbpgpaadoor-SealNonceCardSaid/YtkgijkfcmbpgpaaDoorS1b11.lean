/- Joined by wip/pack.py out of: PAllx28, MSha, MHmac, MEqual; what nothing here names is left out. -/
import Derived.ArgAppend
import Derived.Below
import Derived.BigQuiet
import Derived.Deep.AppendLies
import Derived.Deep.CutBlock
import Derived.Deep.DeepCutAuto
import Derived.Deep.Draws
import Derived.Deep.LoopGhost
import Derived.Deep.MidRow
import Derived.Deep.OwnRows
import Derived.Deep.QuietTactic
import Derived.Deep.RegionHeld3
import Derived.KernelRfl
import Derived.Laws.BitsAllLaws
import Derived.Laws.BitsLemmas
import Derived.Laws.BytesArg
import Derived.Laws.CopyOwn
import Derived.Laws.Cover3
import Derived.Laws.IdiomCopy
import Derived.Laws.MakeOwn
import Derived.Laws.OwnMore
import Derived.Laws.Rows
import Derived.Laws.Slices
import Derived.Laws.StructEq
import Derived.Laws.Tables
import Derived.Lib.AppendStr
import Derived.Lib.BufferWrite
import Derived.Lib.ConvBytes
import Derived.Lib.LazyBuf
import Derived.LoopIn
import Derived.LoopNIn
import Derived.Maps.AppendAt
import Derived.OrdersHeld
import Derived.Outline
import Derived.OwnWalk
import Derived.OwnWalkIn
import Derived.RangeFuncBound
import Derived.RangeFuncCalls
import Derived.RangeFuncLeaves
import Derived.RangeFuncNested
import Derived.RangeFuncOwn
import Derived.RowKit
import Derived.RowKit3
import Derived.ScopeJumps
import Derived.Shelf.Abstract
import Derived.Shelf.RegionOpen
import Derived.Shelf.Strings.Builder1
import Derived.Shelf.Strings.BuilderF
import Derived.Shelf.Strings.BuilderK
import Derived.StillTailTactics
import Derived.Tactics
import Derived.TacticsInMore
import Derived.WalkKit
import Derived.WalkMore
import Derived.WideLaws
import Derived.Test.YtkgijkfcmbpgpaaDoorProg
import Derived.Test.YtkgijkfcmbpgpaaDoorS1b10
import Derived.Test.YtkgijkfcmbpgpaaDoorS1b2
import Derived.Test.YtkgijkfcmbpgpaaDoorS1b3
import Derived.Test.YtkgijkfcmbpgpaaDoorS1b4
import Derived.Test.YtkgijkfcmbpgpaaDoorS1b9
section
namespace Go.Proofs.YtkgijkfcmbpgpaaDoor.PAll
open Go.RowKit Go.Proofs.YtkgijkfcmbpgpaaDoorW.PrintWords Go.Proofs.YtkgijkfcmbpgpaaDoorW.PrintLast Go.Proofs.YtkgijkfcmbpgpaaDoorW.PrintMore
open Go.Proofs.YtkgijkfcmbpgpaaDoor.Giv
attribute [local go_sem] max2_int min2_int max_two min_two max_three min_three max_four min_four   -- for this text's walks alone
set_option linter.unusedVariables false
set_option linter.unusedSimpArgs false

/-! ### legatelaw07_SealBack: function 18 -/
def legatelaw07_SealBack.j0 : Nat → ByteArray → Int → ByteArray → ByteArray → Bool → Bool → Option (Bool)
  | 0, _, _, _, _, _, _ => none
  | k + 1, x0, x1, x2, x3, x9, x24 => if x24 = true then (some x9) else ((seal_Seal.f k x0 x1 x2 x3).bind fun bt546 => (if (x2.size : Int) = 12 then ((seal_Open.f k x0 x1 bt546.1).bind fun bt548 => (if x9 = true then (if bt546.2 = 0 then (if bt548.2 = 0 then (if bt548.1.toList = x3.toList then (if (bt546.1.size : Int) = (wrap64 ((x3.size : Int) + 44)) then (if 0 ≤ 12 then (if 12 ≤ (bt546.1.size : Int) then (some ((bt546.1.extract 0 12).toList == x2.toList)) else (none)) else (none)) else (some false)) else (some false)) else (some false)) else (some false)) else (some false))) else (if x9 = true then (if bt546.1.toList = ([] : List UInt8) then (some (bt546.2 == 1)) else (some false)) else (some false))))
def legatelaw07_SealBack.f (k : Nat) (a0 : ByteArray) (a1 : Int) (a2 : ByteArray) (a3 : ByteArray) : Option (Bool) := (legatelaw07_works.f k).bind fun t545 => (if t545 = true then (if (a0.size : Int) > 1000 then (legatelaw07_SealBack.j0 k a0 a1 a2 a3 t545 true) else (legatelaw07_SealBack.j0 k a0 a1 a2 a3 t545 (decide ((a3.size : Int) > 2000)))) else (some false))
set_option maxHeartbeats 8000000 in
set_option maxRecDepth 100000 in
theorem legatelaw07_SealBack.calls (k : Nat) (a0 : ByteArray) (a1 : Int) (a2 : ByteArray) (a3 : ByteArray) (r : Bool) (w : World) {gw : GW w} (h : legatelaw07_SealBack.f k a0 a1 a2 a3 = some r) :
    Calls Tryd.prog 18 #[.string a0, .int .i64 a1, .string a2, .string a3] w fun e w' => e = .returned (.bool r) ∧ Below w.heap.size w w' := by
  have HG := Aside0.mk gw
  clear gw
  have HB := Aside0.mk (Below.refl w.heap.size w)
  have H : ((legatelaw07_works.f k).bind fun t545 => (if t545 = true then (if (a0.size : Int) > 1000 then (legatelaw07_SealBack.j0 k a0 a1 a2 a3 t545 true) else (legatelaw07_SealBack.j0 k a0 a1 a2 a3 t545 (decide ((a3.size : Int) > 2000)))) else (some false))) = some r := h
  clear h
  replace H := Option.bind_eq_some_iff.mp H
  obtain ⟨t545, A50, H⟩ := H
  replace H : (if t545 = true then (if (a0.size : Int) > 1000 then (legatelaw07_SealBack.j0 k a0 a1 a2 a3 t545 true) else (legatelaw07_SealBack.j0 k a0 a1 a2 a3 t545 (decide ((a3.size : Int) > 2000)))) else (some false)) = some r := H
  have A5 := Aside0.mk A50
  clear A50
  by_cases c6 : t545 = true
  · subst c6
    have H1 : (if (a0.size : Int) > 1000 then (legatelaw07_SealBack.j0 k a0 a1 a2 a3 true true) else (legatelaw07_SealBack.j0 k a0 a1 a2 a3 true (decide ((a3.size : Int) > 2000)))) = some r := by rw [if_pos rfl] at H; exact H
    clear H
    have H := H1
    clear H1
    have HC7 := Aside0.mk H
    clear H
    go_enter Tryd.func18, Tryd.ntmps18
    go_upto_region 4 with (first | ((with_reducible refine gate_callee (f := 29) rfl ?_); refine goesL_ (some 14) rfl rfl Tryd.func29 (by kernel_rfl) rfl #[] rfl (by (try simp only [List.map_toArray, List.map_cons, List.map_nil]); first | done | rfl | (simp only [List.length_drop, List.length_take]; rfl)) ?_; (with_reducible refine (legatelaw07_works.calls (gw := ?sideG) k  true _ A5.out).mono ?_); (case sideG => exact GW.below HG.out (by repeat (first | (with_reducible first | exact HB.out | apply below_alloc | apply pw_below_drewN | apply below_drew1) | exact HB.out))); rintro e w8 ⟨rfl, hb⟩; refine ⟨_, rfl, ?_⟩; have n0_ := Aside0.mk (below_step (by repeat (first | (with_reducible first | exact HB.out | apply below_alloc | apply pw_below_drewN | apply below_drew1) | exact HB.out)) hb); clear HB; have HB := n0_; clear n0_; (try clear hb); (try clear hb2); (try clear hk); (try clear hi)))
    (try simp only [Act.put, List.setIfInBounds_toArray, List.set_cons_zero, List.set_cons_succ])
    go_cut [24] (fun v24 wc => ∃ (kq : Nat) (x24_6 : Bool), v24 = .bool x24_6 ∧ Aside0 (legatelaw07_SealBack.j0 kq a0 a1 a2 a3 true x24_6 = some r) ∧ Aside0 (kq ≤ k) ∧ Aside0 (Below w.heap.size w wc))
    case first =>
      have H := HC7.out
      clear HC7
      by_cases c9 : (a0.size : Int) > 1000
      · rw [if_pos c9] at H
        have c9b0 : decide (1000 < (a0.size : Int)) = true := decide_eq_true c9
        have c9b1 : decide (1000 < a0.size) = true := decide_eq_true (by omega)
        clear c9
        (first | rw [c9b0] | (simp only [i64_w, i32_w]; rw [c9b0]) | skip)
        have H' := Aside0.mk H
        clear H
        go_wp2
        go_meet
        case rel => exact ⟨_, (true), (by first | rfl | (simp; done) | (simp [*]; done)), H', ⟨by first | omega | exact Nat.le_refl _⟩, ⟨by repeat (first | (with_reducible first | exact HB.out | apply below_alloc | apply pw_below_drewN | apply below_drew1) | exact HB.out)⟩⟩
      · rw [if_neg c9] at H
        have c9b0 : decide (1000 < (a0.size : Int)) = false := decide_eq_false c9
        have c9b1 : decide (1000 < a0.size) = false := decide_eq_false (by omega)
        clear c9
        (first | rw [c9b0] | (simp only [i64_w, i32_w]; rw [c9b0]) | skip)
        have H' := Aside0.mk H
        clear H
        go_wp2
        go_meet
        case rel => exact ⟨_, (decide ((a3.size : Int) > 2000)), (by first | rfl | (simp; done) | (simp [*]; done)), H', ⟨by first | omega | exact Nat.le_refl _⟩, ⟨by repeat (first | (with_reducible first | exact HB.out | apply below_alloc | apply pw_below_drewN | apply below_drew1) | exact HB.out)⟩⟩
    case rest =>
      clear HC7
      try clear c1
      try clear c2
      try clear p2
      try clear c6
      try clear c9
      try clear c9b0
      try clear c9b1
      obtain ⟨kq, x24_6, rfl, HA, HJ6, HB⟩ := hcut
      cases kq with
      | zero => exact absurd HA.out (by simp [legatelaw07_SealBack.j0])
      | succ kj6 =>
        have H := HA.out
        clear HA
        simp only [legatelaw07_SealBack.j0] at H
        by_cases c10 : x24_6 = true
        · subst c10
          have H1 : (some true) = some r := by rw [if_pos rfl] at H; exact H
          clear H
          have H := H1
          clear H1
          obtain rfl := Option.some.inj H
          go_wp2
          go_ret
          exact ⟨by first | rfl | (simp [errW_none, errW_some] <;> rfl) | (simp [*, errW_none, errW_some] <;> rfl), by repeat (first | (with_reducible first | exact HB.out | apply below_alloc | apply pw_below_drewN | apply below_drew1) | exact HB.out)⟩
        · replace c10 := Bool.eq_false_iff.mpr c10
          subst c10
          have H1 : ((seal_Seal.f kj6 a0 a1 a2 a3).bind fun bt546 => (if (a2.size : Int) = 12 then ((seal_Open.f kj6 a0 a1 bt546.1).bind fun bt548 => (if true = true then (if bt546.2 = 0 then (if bt548.2 = 0 then (if bt548.1.toList = a3.toList then (if (bt546.1.size : Int) = (wrap64 ((a3.size : Int) + 44)) then (if 0 ≤ 12 then (if 12 ≤ (bt546.1.size : Int) then (some ((bt546.1.extract 0 12).toList == a2.toList)) else (none)) else (none)) else (some false)) else (some false)) else (some false)) else (some false)) else (some false))) else (if true = true then (if bt546.1.toList = ([] : List UInt8) then (some (bt546.2 == 1)) else (some false)) else (some false)))) = some r := by rw [if_neg (show ¬ (false = true) by decide)] at H; exact H
          clear H
          have H := H1
          clear H1
          replace H := Option.bind_eq_some_iff.mp H
          obtain ⟨⟨t546, t547⟩, A110, H⟩ := H
          replace H : (if (a2.size : Int) = 12 then ((seal_Open.f kj6 a0 a1 t546).bind fun bt548 => (if true = true then (if t547 = 0 then (if bt548.2 = 0 then (if bt548.1.toList = a3.toList then (if (t546.size : Int) = (wrap64 ((a3.size : Int) + 44)) then (if 0 ≤ 12 then (if 12 ≤ (t546.size : Int) then (some ((t546.extract 0 12).toList == a2.toList)) else (none)) else (none)) else (some false)) else (some false)) else (some false)) else (some false)) else (some false))) else (if true = true then (if t546.toList = ([] : List UInt8) then (some (t547 == 1)) else (some false)) else (some false))) = some r := H
          have A11 := Aside0.mk A110
          clear A110
          by_cases c12 : (a2.size : Int) = 12
          · rw [if_pos c12] at H
            have c12b0 : ((a2.size : Int) == 12) = true := beq_iff_eq.mpr c12
            have c12b1 : ((a2.size : Int) != 12) = false := bne_eq_false_iff_eq.mpr c12
            clear c12
            replace H := Option.bind_eq_some_iff.mp H
            obtain ⟨⟨t548, t549⟩, A130, H⟩ := H
            replace H : (if true = true then (if t547 = 0 then (if t549 = 0 then (if t548.toList = a3.toList then (if (t546.size : Int) = (wrap64 ((a3.size : Int) + 44)) then (if 0 ≤ 12 then (if 12 ≤ (t546.size : Int) then (some ((t546.extract 0 12).toList == a2.toList)) else (none)) else (none)) else (some false)) else (some false)) else (some false)) else (some false)) else (some false)) = some r := H
            have A13 := Aside0.mk A130
            clear A130
            by_cases c14 : true = true
            · clear c14
              have H1 : (if t547 = 0 then (if t549 = 0 then (if t548.toList = a3.toList then (if (t546.size : Int) = (wrap64 ((a3.size : Int) + 44)) then (if 0 ≤ 12 then (if 12 ≤ (t546.size : Int) then (some ((t546.extract 0 12).toList == a2.toList)) else (none)) else (none)) else (some false)) else (some false)) else (some false)) else (some false)) = some r := by first | (rw [if_pos rfl] at H; exact H) | (rw [if_pos trivial] at H; exact H) | simpa using H
              clear H
              have H := H1
              clear H1
              by_cases c15 : t547 = 0
              · rw [if_pos c15] at H
                have c15b0 : (t547 == 0) = true := beq_iff_eq.mpr c15
                have c15b1 : (t547 != 0) = false := bne_eq_false_iff_eq.mpr c15
                clear c15
                by_cases c16 : t549 = 0
                · rw [if_pos c16] at H
                  have c16b0 : (t549 == 0) = true := beq_iff_eq.mpr c16
                  have c16b1 : (t549 != 0) = false := bne_eq_false_iff_eq.mpr c16
                  clear c16
                  by_cases c17 : t548.toList = a3.toList
                  · rw [if_pos c17] at H
                    have c17b0 : (t548.toList == a3.toList) = true := beq_iff_eq.mpr c17
                    have c17b1 : (t548.toList != a3.toList) = false := bne_eq_false_iff_eq.mpr c17
                    clear c17
                    by_cases c18 : (t546.size : Int) = (wrap64 ((a3.size : Int) + 44))
                    · rw [if_pos c18] at H
                      have c18b0 : ((t546.size : Int) == (wrap64 ((a3.size : Int) + 44))) = true := beq_iff_eq.mpr c18
                      have c18b1 : ((t546.size : Int) != (wrap64 ((a3.size : Int) + 44))) = false := bne_eq_false_iff_eq.mpr c18
                      clear c18
                      by_cases c19 : 0 ≤ 12
                      · rw [if_pos c19] at H
                        have c19b0 := eq_true c19
                        have c19b1 : decide (0 ≤ 12) = true := decide_eq_true c19
                        clear c19
                        by_cases c20 : 12 ≤ (t546.size : Int)
                        · rw [if_pos c20] at H
                          have c20b0 := eq_true c20
                          have c20b1 : decide (12 ≤ (t546.size : Int)) = true := decide_eq_true c20
                          clear c20
                          obtain rfl := Option.some.inj H
                          go_wp2_with (first | ((with_reducible refine gate_callee (f := 30) rfl ?_); refine goesL_ (some 31) rfl rfl Tryd.func30 (by kernel_rfl) rfl #[.string a0, .int .i64 a1, .string a2, .string a3] rfl (by (try simp only [List.map_toArray, List.map_cons, List.map_nil]); first | done | rfl | (simp only [List.length_drop, List.length_take]; rfl)) ?_; (with_reducible refine (seal_Seal.calls (gw := ?sideG) kj6 a0 a1 a2 a3 t546 t547 _ A11.out).mono ?_); (case sideG => exact GW.below HG.out (by repeat (first | (with_reducible first | exact HB.out | apply below_alloc | apply pw_below_drewN | apply below_drew1) | exact HB.out))); rintro e w21 ⟨rfl, hb⟩; refine ⟨_, rfl, ?_⟩; have n0_ := Aside0.mk (below_step (by repeat (first | (with_reducible first | exact HB.out | apply below_alloc | apply pw_below_drewN | apply below_drew1) | exact HB.out)) hb); clear HB; have HB := n0_; clear n0_; (try clear hb); (try clear hb2); (try clear hk); (try clear hi)) | ((with_reducible refine gate_callee (f := 33) rfl ?_); refine goesL_ (some 50) rfl rfl Tryd.func33 (by kernel_rfl) rfl #[.string a0, .int .i64 a1, .string t546] rfl (by (try simp only [List.map_toArray, List.map_cons, List.map_nil]); first | done | rfl | (simp only [List.length_drop, List.length_take]; rfl)) ?_; (with_reducible refine (seal_Open.calls (gw := ?sideG) kj6 a0 a1 t546 t548 t549 _ A13.out).mono ?_); (case sideG => exact GW.below HG.out (by repeat (first | (with_reducible first | exact HB.out | apply below_alloc | apply pw_below_drewN | apply below_drew1) | exact HB.out))); rintro e w22 ⟨rfl, hb⟩; refine ⟨_, rfl, ?_⟩; have n0_ := Aside0.mk (below_step (by repeat (first | (with_reducible first | exact HB.out | apply below_alloc | apply pw_below_drewN | apply below_drew1) | exact HB.out)) hb); clear HB; have HB := n0_; clear n0_; (try clear hb); (try clear hb2); (try clear hk); (try clear hi)))
                          go_ret
                          exact ⟨by first | rfl | (simp [errW_none, errW_some] <;> rfl) | (simp [*, errW_none, errW_some] <;> rfl), by repeat (first | (with_reducible first | exact HB.out | apply below_alloc | apply pw_below_drewN | apply below_drew1) | exact HB.out)⟩
                        · rw [if_neg c20] at H
                          exact absurd H (by simp)
                      · rw [if_neg c19] at H
                        exact absurd H (by simp)
                    · rw [if_neg c18] at H
                      have c18b0 : ((t546.size : Int) == (wrap64 ((a3.size : Int) + 44))) = false := beq_eq_false_iff_ne.mpr c18
                      have c18b1 : ((t546.size : Int) != (wrap64 ((a3.size : Int) + 44))) = true := bne_iff_ne.mpr c18
                      obtain rfl := Option.some.inj H
                      go_wp2_with (first | ((with_reducible refine gate_callee (f := 30) rfl ?_); refine goesL_ (some 31) rfl rfl Tryd.func30 (by kernel_rfl) rfl #[.string a0, .int .i64 a1, .string a2, .string a3] rfl (by (try simp only [List.map_toArray, List.map_cons, List.map_nil]); first | done | rfl | (simp only [List.length_drop, List.length_take]; rfl)) ?_; (with_reducible refine (seal_Seal.calls (gw := ?sideG) kj6 a0 a1 a2 a3 t546 t547 _ A11.out).mono ?_); (case sideG => exact GW.below HG.out (by repeat (first | (with_reducible first | exact HB.out | apply below_alloc | apply pw_below_drewN | apply below_drew1) | exact HB.out))); rintro e w23 ⟨rfl, hb⟩; refine ⟨_, rfl, ?_⟩; have n0_ := Aside0.mk (below_step (by repeat (first | (with_reducible first | exact HB.out | apply below_alloc | apply pw_below_drewN | apply below_drew1) | exact HB.out)) hb); clear HB; have HB := n0_; clear n0_; (try clear hb); (try clear hb2); (try clear hk); (try clear hi)) | ((with_reducible refine gate_callee (f := 33) rfl ?_); refine goesL_ (some 50) rfl rfl Tryd.func33 (by kernel_rfl) rfl #[.string a0, .int .i64 a1, .string t546] rfl (by (try simp only [List.map_toArray, List.map_cons, List.map_nil]); first | done | rfl | (simp only [List.length_drop, List.length_take]; rfl)) ?_; (with_reducible refine (seal_Open.calls (gw := ?sideG) kj6 a0 a1 t546 t548 t549 _ A13.out).mono ?_); (case sideG => exact GW.below HG.out (by repeat (first | (with_reducible first | exact HB.out | apply below_alloc | apply pw_below_drewN | apply below_drew1) | exact HB.out))); rintro e w24 ⟨rfl, hb⟩; refine ⟨_, rfl, ?_⟩; have n0_ := Aside0.mk (below_step (by repeat (first | (with_reducible first | exact HB.out | apply below_alloc | apply pw_below_drewN | apply below_drew1) | exact HB.out)) hb); clear HB; have HB := n0_; clear n0_; (try clear hb); (try clear hb2); (try clear hk); (try clear hi)))
                      go_ret
                      exact ⟨by first | rfl | (simp [errW_none, errW_some] <;> rfl) | (simp [*, errW_none, errW_some] <;> rfl), by repeat (first | (with_reducible first | exact HB.out | apply below_alloc | apply pw_below_drewN | apply below_drew1) | exact HB.out)⟩
                  · rw [if_neg c17] at H
                    have c17b0 : (t548.toList == a3.toList) = false := beq_eq_false_iff_ne.mpr c17
                    have c17b1 : (t548.toList != a3.toList) = true := bne_iff_ne.mpr c17
                    obtain rfl := Option.some.inj H
                    go_wp2_with (first | ((with_reducible refine gate_callee (f := 30) rfl ?_); refine goesL_ (some 31) rfl rfl Tryd.func30 (by kernel_rfl) rfl #[.string a0, .int .i64 a1, .string a2, .string a3] rfl (by (try simp only [List.map_toArray, List.map_cons, List.map_nil]); first | done | rfl | (simp only [List.length_drop, List.length_take]; rfl)) ?_; (with_reducible refine (seal_Seal.calls (gw := ?sideG) kj6 a0 a1 a2 a3 t546 t547 _ A11.out).mono ?_); (case sideG => exact GW.below HG.out (by repeat (first | (with_reducible first | exact HB.out | apply below_alloc | apply pw_below_drewN | apply below_drew1) | exact HB.out))); rintro e w25 ⟨rfl, hb⟩; refine ⟨_, rfl, ?_⟩; have n0_ := Aside0.mk (below_step (by repeat (first | (with_reducible first | exact HB.out | apply below_alloc | apply pw_below_drewN | apply below_drew1) | exact HB.out)) hb); clear HB; have HB := n0_; clear n0_; (try clear hb); (try clear hb2); (try clear hk); (try clear hi)) | ((with_reducible refine gate_callee (f := 33) rfl ?_); refine goesL_ (some 50) rfl rfl Tryd.func33 (by kernel_rfl) rfl #[.string a0, .int .i64 a1, .string t546] rfl (by (try simp only [List.map_toArray, List.map_cons, List.map_nil]); first | done | rfl | (simp only [List.length_drop, List.length_take]; rfl)) ?_; (with_reducible refine (seal_Open.calls (gw := ?sideG) kj6 a0 a1 t546 t548 t549 _ A13.out).mono ?_); (case sideG => exact GW.below HG.out (by repeat (first | (with_reducible first | exact HB.out | apply below_alloc | apply pw_below_drewN | apply below_drew1) | exact HB.out))); rintro e w26 ⟨rfl, hb⟩; refine ⟨_, rfl, ?_⟩; have n0_ := Aside0.mk (below_step (by repeat (first | (with_reducible first | exact HB.out | apply below_alloc | apply pw_below_drewN | apply below_drew1) | exact HB.out)) hb); clear HB; have HB := n0_; clear n0_; (try clear hb); (try clear hb2); (try clear hk); (try clear hi)))
                    go_ret
                    exact ⟨by first | rfl | (simp [errW_none, errW_some] <;> rfl) | (simp [*, errW_none, errW_some] <;> rfl), by repeat (first | (with_reducible first | exact HB.out | apply below_alloc | apply pw_below_drewN | apply below_drew1) | exact HB.out)⟩
                · rw [if_neg c16] at H
                  have c16b0 : (t549 == 0) = false := beq_eq_false_iff_ne.mpr c16
                  have c16b1 : (t549 != 0) = true := bne_iff_ne.mpr c16
                  obtain rfl := Option.some.inj H
                  go_wp2_with (first | ((with_reducible refine gate_callee (f := 30) rfl ?_); refine goesL_ (some 31) rfl rfl Tryd.func30 (by kernel_rfl) rfl #[.string a0, .int .i64 a1, .string a2, .string a3] rfl (by (try simp only [List.map_toArray, List.map_cons, List.map_nil]); first | done | rfl | (simp only [List.length_drop, List.length_take]; rfl)) ?_; (with_reducible refine (seal_Seal.calls (gw := ?sideG) kj6 a0 a1 a2 a3 t546 t547 _ A11.out).mono ?_); (case sideG => exact GW.below HG.out (by repeat (first | (with_reducible first | exact HB.out | apply below_alloc | apply pw_below_drewN | apply below_drew1) | exact HB.out))); rintro e w27 ⟨rfl, hb⟩; refine ⟨_, rfl, ?_⟩; have n0_ := Aside0.mk (below_step (by repeat (first | (with_reducible first | exact HB.out | apply below_alloc | apply pw_below_drewN | apply below_drew1) | exact HB.out)) hb); clear HB; have HB := n0_; clear n0_; (try clear hb); (try clear hb2); (try clear hk); (try clear hi)) | ((with_reducible refine gate_callee (f := 33) rfl ?_); refine goesL_ (some 50) rfl rfl Tryd.func33 (by kernel_rfl) rfl #[.string a0, .int .i64 a1, .string t546] rfl (by (try simp only [List.map_toArray, List.map_cons, List.map_nil]); first | done | rfl | (simp only [List.length_drop, List.length_take]; rfl)) ?_; (with_reducible refine (seal_Open.calls (gw := ?sideG) kj6 a0 a1 t546 t548 t549 _ A13.out).mono ?_); (case sideG => exact GW.below HG.out (by repeat (first | (with_reducible first | exact HB.out | apply below_alloc | apply pw_below_drewN | apply below_drew1) | exact HB.out))); rintro e w28 ⟨rfl, hb⟩; refine ⟨_, rfl, ?_⟩; have n0_ := Aside0.mk (below_step (by repeat (first | (with_reducible first | exact HB.out | apply below_alloc | apply pw_below_drewN | apply below_drew1) | exact HB.out)) hb); clear HB; have HB := n0_; clear n0_; (try clear hb); (try clear hb2); (try clear hk); (try clear hi)))
                  go_ret
                  exact ⟨by first | rfl | (simp [errW_none, errW_some] <;> rfl) | (simp [*, errW_none, errW_some] <;> rfl), by repeat (first | (with_reducible first | exact HB.out | apply below_alloc | apply pw_below_drewN | apply below_drew1) | exact HB.out)⟩
              · rw [if_neg c15] at H
                have c15b0 : (t547 == 0) = false := beq_eq_false_iff_ne.mpr c15
                have c15b1 : (t547 != 0) = true := bne_iff_ne.mpr c15
                obtain rfl := Option.some.inj H
                go_wp2_with (first | ((with_reducible refine gate_callee (f := 30) rfl ?_); refine goesL_ (some 31) rfl rfl Tryd.func30 (by kernel_rfl) rfl #[.string a0, .int .i64 a1, .string a2, .string a3] rfl (by (try simp only [List.map_toArray, List.map_cons, List.map_nil]); first | done | rfl | (simp only [List.length_drop, List.length_take]; rfl)) ?_; (with_reducible refine (seal_Seal.calls (gw := ?sideG) kj6 a0 a1 a2 a3 t546 t547 _ A11.out).mono ?_); (case sideG => exact GW.below HG.out (by repeat (first | (with_reducible first | exact HB.out | apply below_alloc | apply pw_below_drewN | apply below_drew1) | exact HB.out))); rintro e w29 ⟨rfl, hb⟩; refine ⟨_, rfl, ?_⟩; have n0_ := Aside0.mk (below_step (by repeat (first | (with_reducible first | exact HB.out | apply below_alloc | apply pw_below_drewN | apply below_drew1) | exact HB.out)) hb); clear HB; have HB := n0_; clear n0_; (try clear hb); (try clear hb2); (try clear hk); (try clear hi)) | ((with_reducible refine gate_callee (f := 33) rfl ?_); refine goesL_ (some 50) rfl rfl Tryd.func33 (by kernel_rfl) rfl #[.string a0, .int .i64 a1, .string t546] rfl (by (try simp only [List.map_toArray, List.map_cons, List.map_nil]); first | done | rfl | (simp only [List.length_drop, List.length_take]; rfl)) ?_; (with_reducible refine (seal_Open.calls (gw := ?sideG) kj6 a0 a1 t546 t548 t549 _ A13.out).mono ?_); (case sideG => exact GW.below HG.out (by repeat (first | (with_reducible first | exact HB.out | apply below_alloc | apply pw_below_drewN | apply below_drew1) | exact HB.out))); rintro e w30 ⟨rfl, hb⟩; refine ⟨_, rfl, ?_⟩; have n0_ := Aside0.mk (below_step (by repeat (first | (with_reducible first | exact HB.out | apply below_alloc | apply pw_below_drewN | apply below_drew1) | exact HB.out)) hb); clear HB; have HB := n0_; clear n0_; (try clear hb); (try clear hb2); (try clear hk); (try clear hi)))
                go_ret
                exact ⟨by first | rfl | (simp [errW_none, errW_some] <;> rfl) | (simp [*, errW_none, errW_some] <;> rfl), by repeat (first | (with_reducible first | exact HB.out | apply below_alloc | apply pw_below_drewN | apply below_drew1) | exact HB.out)⟩
            · exact absurd rfl c14
          · rw [if_neg c12] at H
            have c12b0 : ((a2.size : Int) == 12) = false := beq_eq_false_iff_ne.mpr c12
            have c12b1 : ((a2.size : Int) != 12) = true := bne_iff_ne.mpr c12
            by_cases c33 : true = true
            · clear c33
              have H1 : (if t546.toList = ([] : List UInt8) then (some (t547 == 1)) else (some false)) = some r := by first | (rw [if_pos rfl] at H; exact H) | (rw [if_pos trivial] at H; exact H) | simpa using H
              clear H
              have H := H1
              clear H1
              by_cases c34 : t546.toList = ([] : List UInt8)
              · rw [if_pos c34] at H
                have c34b0 : (t546.toList == ([] : List UInt8)) = true := beq_iff_eq.mpr c34
                have c34b1 : (t546.toList != ([] : List UInt8)) = false := bne_eq_false_iff_eq.mpr c34
                clear c34
                obtain rfl := Option.some.inj H
                go_wp2_with (first | ((with_reducible refine gate_callee (f := 30) rfl ?_); refine goesL_ (some 31) rfl rfl Tryd.func30 (by kernel_rfl) rfl #[.string a0, .int .i64 a1, .string a2, .string a3] rfl (by (try simp only [List.map_toArray, List.map_cons, List.map_nil]); first | done | rfl | (simp only [List.length_drop, List.length_take]; rfl)) ?_; (with_reducible refine (seal_Seal.calls (gw := ?sideG) kj6 a0 a1 a2 a3 t546 t547 _ A11.out).mono ?_); (case sideG => exact GW.below HG.out (by repeat (first | (with_reducible first | exact HB.out | apply below_alloc | apply pw_below_drewN | apply below_drew1) | exact HB.out))); rintro e w35 ⟨rfl, hb⟩; refine ⟨_, rfl, ?_⟩; have n0_ := Aside0.mk (below_step (by repeat (first | (with_reducible first | exact HB.out | apply below_alloc | apply pw_below_drewN | apply below_drew1) | exact HB.out)) hb); clear HB; have HB := n0_; clear n0_; (try clear hb); (try clear hb2); (try clear hk); (try clear hi)))
                go_ret
                exact ⟨by first | rfl | (simp [errW_none, errW_some] <;> rfl) | (simp [*, errW_none, errW_some] <;> rfl), by repeat (first | (with_reducible first | exact HB.out | apply below_alloc | apply pw_below_drewN | apply below_drew1) | exact HB.out)⟩
              · rw [if_neg c34] at H
                have c34b0 : (t546.toList == ([] : List UInt8)) = false := beq_eq_false_iff_ne.mpr c34
                have c34b1 : (t546.toList != ([] : List UInt8)) = true := bne_iff_ne.mpr c34
                obtain rfl := Option.some.inj H
                go_wp2_with (first | ((with_reducible refine gate_callee (f := 30) rfl ?_); refine goesL_ (some 31) rfl rfl Tryd.func30 (by kernel_rfl) rfl #[.string a0, .int .i64 a1, .string a2, .string a3] rfl (by (try simp only [List.map_toArray, List.map_cons, List.map_nil]); first | done | rfl | (simp only [List.length_drop, List.length_take]; rfl)) ?_; (with_reducible refine (seal_Seal.calls (gw := ?sideG) kj6 a0 a1 a2 a3 t546 t547 _ A11.out).mono ?_); (case sideG => exact GW.below HG.out (by repeat (first | (with_reducible first | exact HB.out | apply below_alloc | apply pw_below_drewN | apply below_drew1) | exact HB.out))); rintro e w36 ⟨rfl, hb⟩; refine ⟨_, rfl, ?_⟩; have n0_ := Aside0.mk (below_step (by repeat (first | (with_reducible first | exact HB.out | apply below_alloc | apply pw_below_drewN | apply below_drew1) | exact HB.out)) hb); clear HB; have HB := n0_; clear n0_; (try clear hb); (try clear hb2); (try clear hk); (try clear hi)))
                go_ret
                exact ⟨by first | rfl | (simp [errW_none, errW_some] <;> rfl) | (simp [*, errW_none, errW_some] <;> rfl), by repeat (first | (with_reducible first | exact HB.out | apply below_alloc | apply pw_below_drewN | apply below_drew1) | exact HB.out)⟩
            · exact absurd rfl c33
  · replace c6 := Bool.eq_false_iff.mpr c6
    subst c6
    have H1 : (some false) = some r := by rw [if_neg (show ¬ (false = true) by decide)] at H; exact H
    clear H
    have H := H1
    clear H1
    obtain rfl := Option.some.inj H
    go_enter Tryd.func18, Tryd.ntmps18
    go_wp2_with (first | ((with_reducible refine gate_callee (f := 29) rfl ?_); refine goesL_ (some 14) rfl rfl Tryd.func29 (by kernel_rfl) rfl #[] rfl (by (try simp only [List.map_toArray, List.map_cons, List.map_nil]); first | done | rfl | (simp only [List.length_drop, List.length_take]; rfl)) ?_; (with_reducible refine (legatelaw07_works.calls (gw := ?sideG) k  false _ A5.out).mono ?_); (case sideG => exact GW.below HG.out (by repeat (first | (with_reducible first | exact HB.out | apply below_alloc | apply pw_below_drewN | apply below_drew1) | exact HB.out))); rintro e w38 ⟨rfl, hb⟩; refine ⟨_, rfl, ?_⟩; have n0_ := Aside0.mk (below_step (by repeat (first | (with_reducible first | exact HB.out | apply below_alloc | apply pw_below_drewN | apply below_drew1) | exact HB.out)) hb); clear HB; have HB := n0_; clear n0_; (try clear hb); (try clear hb2); (try clear hk); (try clear hi)))
    go_ret
    exact ⟨by first | rfl | (simp [errW_none, errW_some] <;> rfl) | (simp [*, errW_none, errW_some] <;> rfl), by repeat (first | (with_reducible first | exact HB.out | apply below_alloc | apply pw_below_drewN | apply below_drew1) | exact HB.out)⟩

/-- THE ONE PURE STATEMENT of legatelaw07_SealBack: yours. -/
def legatelaw07_SealBack.Pure : Prop := ∀ (a0 : ByteArray) (a1 : Int) (a2 : ByteArray) (a3 : ByteArray), a0.size ≤ 140737488351232 → (Lit.int .i64 a1).wf = true → a2.size ≤ 140737488351232 → a3.size ≤ 140737488351232 → ∃ k, legatelaw07_SealBack.f k a0 a1 a2 a3 = some true
theorem legatelaw07_SealBack.walk (P : legatelaw07_SealBack.Pure) (a0 : ByteArray) (a1 : Int) (a2 : ByteArray) (a3 : ByteArray) (w : World) (w0 : a0.size ≤ 140737488351232) (w1 : (Lit.int .i64 a1).wf = true) (w2 : a2.size ≤ 140737488351232) (w3 : a3.size ≤ 140737488351232) {gw : GW w} :
    Calls Tryd.prog 18 #[.string a0, .int .i64 a1, .string a2, .string a3] w fun e w' => e = .returned (.bool true) ∧ Below w.heap.size w w' := by
  obtain ⟨k, h⟩ := P a0 a1 a2 a3 w0 w1 w2 w3
  refine (legatelaw07_SealBack.calls (gw := gw) k a0 a1 a2 a3 true w h).mono ?_
  rintro e w' ⟨rfl, hd⟩
  exact ⟨rfl, hd⟩

end Go.Proofs.YtkgijkfcmbpgpaaDoor.PAll
end

section
namespace Go.Proofs.YtkgijkfcmbpgpaaDoor.Giv
open Go.RowKit Go.Proofs.YtkgijkfcmbpgpaaDoorW.PrintWords Go.Proofs.YtkgijkfcmbpgpaaDoorW.PrintLast Go.Proofs.YtkgijkfcmbpgpaaDoorW.PrintMore

theorem toList_inj {a b : ByteArray} (h : a.toList = b.toList) : a = b := by
  rw [ByteArray.toList_eq, ByteArray.toList_eq] at h
  apply ByteArray.ext
  exact Array.toList_inj.1 h
theorem toList_beq (a b : ByteArray) : (a.toList == b.toList) = decide (a = b) := by
  by_cases h : a = b
  · subst h; simp
  · have : a.toList ≠ b.toList := fun e => h (toList_inj e)
    simp [h, this]
end Go.Proofs.YtkgijkfcmbpgpaaDoor.Giv
namespace Go.Proofs.YtkgijkfcmbpgpaaDoor.Giv
open Go.RowKit Go.Proofs.YtkgijkfcmbpgpaaDoorW.PrintWords Go.Proofs.YtkgijkfcmbpgpaaDoorW.PrintLast Go.Proofs.YtkgijkfcmbpgpaaDoorW.PrintMore Go.Proofs.YtkgijkfcmbpgpaaDoor.PSub

theorem bt_byte (s : ByteArray) (i : Int) : 0 ≤ bt s i ∧ bt s i < 256 := by
  unfold bt
  split
  · exact ⟨by omega, by have := (s[i.toNat]).toNat_lt; omega⟩
  · omega
end Go.Proofs.YtkgijkfcmbpgpaaDoor.Giv
namespace Go.Proofs.YtkgijkfcmbpgpaaDoor.Giv
open Go.RowKit Go.Proofs.YtkgijkfcmbpgpaaDoorW.PrintWords Go.Proofs.YtkgijkfcmbpgpaaDoorW.PrintLast Go.Proofs.YtkgijkfcmbpgpaaDoorW.PrintMore Go.Proofs.YtkgijkfcmbpgpaaDoor.PSub

end Go.Proofs.YtkgijkfcmbpgpaaDoor.Giv
end

section
namespace Go.Proofs.YtkgijkfcmbpgpaaDoor.Giv
open Go.RowKit Go.Proofs.YtkgijkfcmbpgpaaDoorW.PrintWords Go.Proofs.YtkgijkfcmbpgpaaDoorW.PrintLast Go.Proofs.YtkgijkfcmbpgpaaDoorW.PrintMore Go.Proofs.YtkgijkfcmbpgpaaDoor.PSub

theorem bt_inb (s : ByteArray) (j : Nat) (h : j < s.size) : bt s (j : Int) = ((s[j]'h).toNat : Int) := by
  unfold bt
  rw [dif_pos (by simpa using h)]
  simp
theorem bt_out0 (s : ByteArray) (j : Nat) (h : s.size ≤ j) : bt s (j : Int) = 0 := by
  unfold bt
  rw [dif_neg (by simpa using h)]
/-- Two texts are the same if their bytes are. -/
theorem bt_ext {a b : ByteArray} (hs : a.size = b.size) (h : ∀ j : Nat, j < a.size → bt a (j : Int) = bt b (j : Int)) : a = b := by
  apply ByteArray.ext
  apply Array.ext
  · exact hs
  · intro i h1 h2
    have e := h i h1
    rw [bt_inb a i h1, bt_inb b i h2] at e
    have e2 : (a[i]'h1).toNat = (b[i]'h2).toNat := by exact_mod_cast e
    exact UInt8.toNat_inj.1 e2
theorem bt_app_l (a b : ByteArray) (j : Nat) (h : j < a.size) : bt (a ++ b) (j : Int) = bt a (j : Int) := by
  rw [bt_inb _ _ (by rw [ByteArray.size_append]; omega), bt_inb _ _ h, ByteArray.getElem_append_left h]
theorem bt_app_r (a b : ByteArray) (j : Nat) (h : a.size ≤ j) : bt (a ++ b) (j : Int) = bt b ((j - a.size : Nat) : Int) := by
  by_cases hj : j < (a ++ b).size
  · have hq : j - a.size < b.size := by rw [ByteArray.size_append] at hj; omega
    rw [bt_inb _ _ hj, bt_inb _ _ hq, ByteArray.getElem_append_right h]
  · rw [bt_out0 _ _ (by omega), bt_out0 _ _ (by rw [ByteArray.size_append] at hj; omega)]
theorem str_append (l m : List Int) : strOfNums (l ++ m) = strOfNums l ++ strOfNums m := by
  apply ByteArray.ext
  rw [ByteArray.data_append]
  show ((l ++ m).map _).toArray = (l.map _).toArray ++ (m.map _).toArray
  simp
theorem keyB_size (s : ByteArray) : (keyB s).size = 64 := fill_size s
theorem sum_some (s : ByteArray) (h : s.size ≤ 100000000) : sha_Sum.f s = some (sumB s) := by unfold sha_Sum.f; rw [if_pos h]
theorem sumB_size (s : ByteArray) (h : s.size ≤ 100000000) : (sumB s).size = 32 := sum_size32 (sum_some s h)
/-- A key as_ a block. -/
def kyB (a : ByteArray) : ByteArray := if a.size ≤ 64 then keyB a else keyB (sumB a)
theorem kyB_size (a : ByteArray) : (kyB a).size = 64 := by unfold kyB; split <;> exact keyB_size _
theorem key_some (a : ByteArray) (h : a.size ≤ 100000000) : hmac_Key.f a = some (kyB a) := by
  unfold hmac_Key.f kyB
  split
  · rfl
  · rw [sum_some a h]; rfl
def macB (a m : ByteArray) : ByteArray := sumB (xorB (kyB a) 92 ++ sumB (xorB (kyB a) 54 ++ m))
theorem xorK_size (a : ByteArray) (c : Int) : (xorB (kyB a) c).size = 64 := by rw [xorB_size, kyB_size]
theorem mac_some (a m : ByteArray) (ha : a.size ≤ 100000000) (hm : m.size ≤ 90000000) : hmac_Mac.f a m = some (macB a m) := by
  have h1 : (xorB (kyB a) 54 ++ m).size ≤ 100000000 := by rw [ByteArray.size_append, xorK_size]; omega
  have h2 : (xorB (kyB a) 92 ++ sumB (xorB (kyB a) 54 ++ m)).size ≤ 100000000 := by rw [ByteArray.size_append, xorK_size, sumB_size _ h1]; omega
  unfold hmac_Mac.f
  rw [key_some a ha]
  simp only [Option.bind_some]
  rw [sum_some _ h1]
  simp only [Option.bind_some]
  rw [sum_some _ h2]
  rfl
theorem macB_size (a m : ByteArray) (hm : m.size ≤ 90000000) : (macB a m).size = 32 := by
  have h1 : (xorB (kyB a) 54 ++ m).size ≤ 100000000 := by rw [ByteArray.size_append, xorK_size]; omega
  exact sumB_size _ (by rw [ByteArray.size_append, xorK_size, sumB_size _ h1]; omega)
end Go.Proofs.YtkgijkfcmbpgpaaDoor.Giv
end

section
namespace Go.Proofs.YtkgijkfcmbpgpaaDoor.Giv
open Go.RowKit Go.Proofs.YtkgijkfcmbpgpaaDoor.PAll Go.Proofs.YtkgijkfcmbpgpaaDoorW.PrintWords Go.Proofs.YtkgijkfcmbpgpaaDoorW.PrintLast

theorem xor_zero {x y : Int} (hx : 0 ≤ x ∧ x < 256) (hy : 0 ≤ y ∧ y < 256) : Go.bits .xor .u8 x y = 0 ↔ x = y := by
  rw [u8_xor x y hx.1 hx.2 hy.1 hy.2]
  constructor
  · intro h
    have e0 : x.toNat ^^^ y.toNat = 0 := by omega
    have e : x.toNat = y.toNat := by
      have e1 : (x.toNat ^^^ y.toNat) ^^^ y.toNat = x.toNat := by rw [Nat.xor_assoc, Nat.xor_self, Nat.xor_zero]
      rw [e0, Nat.zero_xor] at e1
      exact e1.symm
    omega
  · rintro rfl
    simp
theorem xor_byte (x y : Int) (hx : 0 ≤ x ∧ x < 256) (hy : 0 ≤ y ∧ y < 256) : 0 ≤ Go.bits .xor .u8 x y ∧ Go.bits .xor .u8 x y < 256 := by
  rw [u8_xor x y hx.1 hx.2 hy.1 hy.2]
  have := Nat.xor_lt_two_pow (n := 8) (show x.toNat < 2 ^ 8 by omega) (show y.toNat < 2 ^ 8 by omega)
  omega
theorem or_zero {x y : Int} (hx : 0 ≤ x ∧ x < 256) (hy : 0 ≤ y ∧ y < 256) : Go.bits .or .u8 x y = 0 ↔ x = 0 ∧ y = 0 := by
  rw [u8_or x y hx.1 hx.2 hy.1 hy.2]
  have := Nat.or_eq_zero_iff (n := x.toNat) (m := y.toNat)
  omega
theorem or_byte (x y : Int) (hx : 0 ≤ x ∧ x < 256) (hy : 0 ≤ y ∧ y < 256) : 0 ≤ Go.bits .or .u8 x y ∧ Go.bits .or .u8 x y < 256 := by
  rw [u8_or x y hx.1 hx.2 hy.1 hy.2]
  have := Nat.or_lt_two_pow (n := 8) (show x.toNat < 2 ^ 8 by omega) (show y.toNat < 2 ^ 8 by omega)
  omega
open Classical in
theorem equal_l0 (a b : ByteArray) (hs : a.size = b.size) (ha : a.size ≤ 140737488351232) : ∀ (n m k : Nat) (d : Int), m + n = a.size → n < k → 0 ≤ d ∧ d < 256 →
    hmac_Equal.l0 k a b d (a.size : Int) (m : Int) = some (decide (d = 0 ∧ ∀ j : Nat, m ≤ j → j < a.size → bt a (j : Int) = bt b (j : Int))) := by
  intro n
  induction n with
  | zero =>
    intro m k d hm hk hd
    obtain ⟨k, rfl⟩ : ∃ j, k = j + 1 := ⟨k - 1, by omega⟩
    simp only [hmac_Equal.l0]
    rw [if_neg (by omega)]
    congr 1
    by_cases h : d = 0
    · subst h
      simp only [BEq.rfl]
      exact (decide_eq_true ⟨trivial, fun j h1 h2 => by omega⟩).symm
    · rw [decide_eq_false (fun h2 => h h2.1)]
      simpa using h
  | succ n ih =>
    intro m k d hm hk hd
    obtain ⟨k, rfl⟩ : ∃ j, k = j + 1 := ⟨k - 1, by omega⟩
    simp only [hmac_Equal.l0]
    have e : wrap64 ((m : Int) + 1) = ((m + 1 : Nat) : Int) := by unfold wrap64; omega
    have h1 := bt_byte a (m : Int)
    have h2 := bt_byte b (m : Int)
    have h3 := xor_byte _ _ h1 h2
    rw [if_pos (by omega), if_pos (by omega), if_pos (by omega), if_pos (by omega), e, ih (m + 1) k _ (by omega) (by omega) (or_byte _ _ hd h3)]
    congr 1
    apply decide_eq_decide.2
    rw [or_zero hd h3, xor_zero h1 h2]
    constructor
    · rintro ⟨⟨h4, h5⟩, h6⟩
      refine ⟨h4, fun j h7 h8 => ?_⟩
      by_cases hj : j = m
      · rw [hj]; exact h5
      · exact h6 j (by omega) h8
    · rintro ⟨h4, h5⟩
      exact ⟨⟨h4, h5 m (by omega) (by omega)⟩, fun j h7 h8 => h5 j (by omega) h8⟩
theorem equal_some (a b : ByteArray) (ha : a.size ≤ 140737488351232) (k : Nat) (hk : a.size < k) : hmac_Equal.f k a b = some (decide (a = b)) := by
  unfold hmac_Equal.f
  by_cases hs : a.size = b.size
  · rw [if_pos (by omega), show (0 : Int) = ((0 : Nat) : Int) from rfl, equal_l0 a b hs ha a.size 0 k ((0 : Nat) : Int) (by omega) hk (by omega)]
    congr 1
    apply decide_eq_decide.2
    constructor
    · rintro ⟨_, h⟩
      exact bt_ext hs fun j hj => h j (by omega) hj
    · rintro rfl
      exact ⟨rfl, fun _ _ _ => rfl⟩
  · rw [if_neg (by omega)]
    have : a ≠ b := fun e => hs (by rw [e])
    simp [this]
end Go.Proofs.YtkgijkfcmbpgpaaDoor.Giv
end
