/- Joined by wip/pack.py out of: PAllx13, MRef, MDerive, MField, MAes1, PAllx23, MAes3; what nothing here names is left out. -/
import Derived.ArgAppend
import Derived.Below
import Derived.BigQuiet
import Derived.Deep.AppendLies
import Derived.Deep.CutBlock
import Derived.Deep.DeepCutAuto
import Derived.Deep.Draws
import Derived.Deep.LoopGhost
import Derived.Deep.MidRow
import Derived.Deep.OwnRows
import Derived.Deep.QuietTactic
import Derived.Deep.RegionHeld3
import Derived.KernelRfl
import Derived.Laws.BitsAllLaws
import Derived.Laws.BitsLemmas
import Derived.Laws.BytesArg
import Derived.Laws.CopyOwn
import Derived.Laws.Cover3
import Derived.Laws.IdiomCopy
import Derived.Laws.MakeOwn
import Derived.Laws.OwnMore
import Derived.Laws.Rows
import Derived.Laws.Slices
import Derived.Laws.StructEq
import Derived.Laws.Tables
import Derived.Lib.AppendStr
import Derived.Lib.BufferWrite
import Derived.Lib.ConvBytes
import Derived.Lib.LazyBuf
import Derived.LoopIn
import Derived.LoopNIn
import Derived.Maps.AppendAt
import Derived.OrdersHeld
import Derived.Outline
import Derived.OwnWalk
import Derived.OwnWalkIn
import Derived.RangeFuncBound
import Derived.RangeFuncCalls
import Derived.RangeFuncLeaves
import Derived.RangeFuncNested
import Derived.RangeFuncOwn
import Derived.RowKit
import Derived.RowKit3
import Derived.ScopeJumps
import Derived.Shelf.Abstract
import Derived.Shelf.RegionOpen
import Derived.Shelf.Strings.Builder1
import Derived.Shelf.Strings.BuilderF
import Derived.Shelf.Strings.BuilderK
import Derived.StillTailTactics
import Derived.Tactics
import Derived.TacticsInMore
import Derived.WalkKit
import Derived.WalkMore
import Derived.WideLaws
import Derived.Test.YtkgijkfcmbpgpaaDoorProg
import Derived.Test.YtkgijkfcmbpgpaaDoorS1b10
import Derived.Test.YtkgijkfcmbpgpaaDoorS1b11
import Derived.Test.YtkgijkfcmbpgpaaDoorS1b2
import Derived.Test.YtkgijkfcmbpgpaaDoorS1b3
import Derived.Test.YtkgijkfcmbpgpaaDoorS1b4
import Derived.Test.YtkgijkfcmbpgpaaDoorS1b7
import Derived.Test.YtkgijkfcmbpgpaaDoorS1b8
import Derived.Test.YtkgijkfcmbpgpaaDoorS1b9
section
namespace Go.Proofs.YtkgijkfcmbpgpaaDoor.PAll
open Go.RowKit Go.Proofs.YtkgijkfcmbpgpaaDoorW.PrintWords Go.Proofs.YtkgijkfcmbpgpaaDoorW.PrintLast Go.Proofs.YtkgijkfcmbpgpaaDoorW.PrintMore
open Go.Proofs.YtkgijkfcmbpgpaaDoor.Giv
attribute [local go_sem] max2_int min2_int max_two min_two max_three min_three max_four min_four   -- for this text's walks alone
set_option linter.unusedVariables false
set_option linter.unusedSimpArgs false

/-! ### legatelaw07_SealNonce: function 9 -/
mutual
def legatelaw07_SealNonce.j0 : Nat → ByteArray → Int → ByteArray → ByteArray → ByteArray → ByteArray → Bool → Bool → Option (Bool)
  | 0, _, _, _, _, _, _, _, _ => none
  | k + 1, x0, x1, x2, x3, x4, x5, x13, x46 => if x46 = true then (some x13) else ((seal_Seal.f k x0 x1 x2 x4).bind fun bt306 => ((seal_Seal.f k x0 x1 x2 x5).bind fun bt308 => ((seal_Seal.f k x0 x1 x3 x4).bind fun bt310 => (if bt306.2 = 0 then (if bt308.2 = 0 then (if bt310.2 = 0 then (legatelaw07_SealNonce.j1 k x4 x5 x13 bt306.1 bt308.1 ((x2.toList == x3.toList) != (bt306.1.toList == bt310.1.toList))) else (legatelaw07_SealNonce.j1 k x4 x5 x13 bt306.1 bt308.1 true)) else (legatelaw07_SealNonce.j1 k x4 x5 x13 bt306.1 bt308.1 true)) else (legatelaw07_SealNonce.j1 k x4 x5 x13 bt306.1 bt308.1 true)))))
def legatelaw07_SealNonce.j1 : Nat → ByteArray → ByteArray → Bool → ByteArray → ByteArray → Bool → Option (Bool)
  | 0, _, _, _, _, _, _ => none
  | k + 1, x4, x5, x13, x14, x16, x90 => if x90 = true then (some false) else (legatelaw07_SealNonce.l0 k x4 x5 x13 x14 x16 0)
def legatelaw07_SealNonce.l0 : Nat → ByteArray → ByteArray → Bool → ByteArray → ByteArray → Int → Option (Bool)
  | 0, _, _, _, _, _, _ => none
  | k + 1, x4, x5, x13, x14, x16, x20 => if x20 < (x4.size : Int) then (legatelaw07_SealNonce.j3 k x4 x5 x13 x14 x16 x20 (decide (x20 < (x5.size : Int)))) else (legatelaw07_SealNonce.j3 k x4 x5 x13 x14 x16 x20 false)
def legatelaw07_SealNonce.j3 : Nat → ByteArray → ByteArray → Bool → ByteArray → ByteArray → Int → Bool → Option (Bool)
  | 0, _, _, _, _, _, _, _ => none
  | k + 1, x4, x5, x13, x14, x16, x20, x100 => if x100 = true then (if 0 ≤ x20 then (if x20 < (x4.size : Int) then (if x20 < (x5.size : Int) then (if 0 ≤ (wrap64 (12 + x20)) then (if (wrap64 (12 + x20)) < (x14.size : Int) then (if (wrap64 (12 + x20)) < (x16.size : Int) then (if (((bt x4 x20) == (bt x5 x20)) != ((bt x14 (wrap64 (12 + x20))) == (bt x16 (wrap64 (12 + x20))))) = true then (some false) else (legatelaw07_SealNonce.l0 k x4 x5 x13 x14 x16 (wrap64 (x20 + 1)))) else (none)) else (none)) else (none)) else (none)) else (none)) else (none)) else (some x13)
end
def legatelaw07_SealNonce.f (k : Nat) (a0 : ByteArray) (a1 : Int) (a2 : ByteArray) (a3 : ByteArray) (a4 : ByteArray) (a5 : ByteArray) : Option (Bool) := (legatelaw07_works.f k).bind fun t305 => (if t305 = true then (if (a0.size : Int) > 500 then (legatelaw07_SealNonce.j0 k a0 a1 a2 a3 a4 a5 t305 true) else (if (a2.size : Int) = 12 then (if (a3.size : Int) = 12 then (if (a4.size : Int) > 500 then (legatelaw07_SealNonce.j0 k a0 a1 a2 a3 a4 a5 t305 true) else (legatelaw07_SealNonce.j0 k a0 a1 a2 a3 a4 a5 t305 (decide ((a5.size : Int) > 500)))) else (legatelaw07_SealNonce.j0 k a0 a1 a2 a3 a4 a5 t305 true)) else (legatelaw07_SealNonce.j0 k a0 a1 a2 a3 a4 a5 t305 true))) else (some false))
set_option maxHeartbeats 8000000 in
set_option maxRecDepth 100000 in
theorem legatelaw07_SealNonce.calls (k : Nat) (a0 : ByteArray) (a1 : Int) (a2 : ByteArray) (a3 : ByteArray) (a4 : ByteArray) (a5 : ByteArray) (r : Bool) (w : World) {gw : GW w} (h : legatelaw07_SealNonce.f k a0 a1 a2 a3 a4 a5 = some r) :
    Calls Tryd.prog 9 #[.string a0, .int .i64 a1, .string a2, .string a3, .string a4, .string a5] w fun e w' => e = .returned (.bool r) ∧ Below w.heap.size w w' := by
  have HG := Aside0.mk gw
  clear gw
  have HB := Aside0.mk (Below.refl w.heap.size w)
  have H : ((legatelaw07_works.f k).bind fun t305 => (if t305 = true then (if (a0.size : Int) > 500 then (legatelaw07_SealNonce.j0 k a0 a1 a2 a3 a4 a5 t305 true) else (if (a2.size : Int) = 12 then (if (a3.size : Int) = 12 then (if (a4.size : Int) > 500 then (legatelaw07_SealNonce.j0 k a0 a1 a2 a3 a4 a5 t305 true) else (legatelaw07_SealNonce.j0 k a0 a1 a2 a3 a4 a5 t305 (decide ((a5.size : Int) > 500)))) else (legatelaw07_SealNonce.j0 k a0 a1 a2 a3 a4 a5 t305 true)) else (legatelaw07_SealNonce.j0 k a0 a1 a2 a3 a4 a5 t305 true))) else (some false))) = some r := h
  clear h
  replace H := Option.bind_eq_some_iff.mp H
  obtain ⟨t305, A70, H⟩ := H
  replace H : (if t305 = true then (if (a0.size : Int) > 500 then (legatelaw07_SealNonce.j0 k a0 a1 a2 a3 a4 a5 t305 true) else (if (a2.size : Int) = 12 then (if (a3.size : Int) = 12 then (if (a4.size : Int) > 500 then (legatelaw07_SealNonce.j0 k a0 a1 a2 a3 a4 a5 t305 true) else (legatelaw07_SealNonce.j0 k a0 a1 a2 a3 a4 a5 t305 (decide ((a5.size : Int) > 500)))) else (legatelaw07_SealNonce.j0 k a0 a1 a2 a3 a4 a5 t305 true)) else (legatelaw07_SealNonce.j0 k a0 a1 a2 a3 a4 a5 t305 true))) else (some false)) = some r := H
  have A7 := Aside0.mk A70
  clear A70
  by_cases c8 : t305 = true
  · subst c8
    have H1 : (if (a0.size : Int) > 500 then (legatelaw07_SealNonce.j0 k a0 a1 a2 a3 a4 a5 true true) else (if (a2.size : Int) = 12 then (if (a3.size : Int) = 12 then (if (a4.size : Int) > 500 then (legatelaw07_SealNonce.j0 k a0 a1 a2 a3 a4 a5 true true) else (legatelaw07_SealNonce.j0 k a0 a1 a2 a3 a4 a5 true (decide ((a5.size : Int) > 500)))) else (legatelaw07_SealNonce.j0 k a0 a1 a2 a3 a4 a5 true true)) else (legatelaw07_SealNonce.j0 k a0 a1 a2 a3 a4 a5 true true))) = some r := by rw [if_pos rfl] at H; exact H
    clear H
    have H := H1
    clear H1
    have HC9 := Aside0.mk H
    clear H
    go_enter Tryd.func9, Tryd.ntmps9
    go_upto_region 4 with (first | (go_at_call 29; (with_reducible refine (legatelaw07_works.calls (gw := ?sideG) k  true _ A7.out).mono ?_); (case sideG => exact GW.below HG.out (by repeat (first | (with_reducible first | exact HB.out | apply below_alloc | apply pw_below_drewN | apply below_drew1) | exact HB.out))); rintro e w10 ⟨rfl, hb⟩; have n0_ := Aside0.mk (below_step (by repeat (first | (with_reducible first | exact HB.out | apply below_alloc | apply pw_below_drewN | apply below_drew1) | exact HB.out)) hb); clear HB; have HB := n0_; clear n0_; (try clear hb); (try clear hb2); (try clear hk); (try clear hi)))
    repeat (go_quiet (first | (go_at_call 29; (with_reducible refine (legatelaw07_works.calls (gw := ?sideG) k  true _ A7.out).mono ?_); (case sideG => exact GW.below HG.out (by repeat (first | (with_reducible first | exact HB.out | apply below_alloc | apply pw_below_drewN | apply below_drew1) | exact HB.out))); rintro e w10 ⟨rfl, hb⟩; have n0_ := Aside0.mk (below_step (by repeat (first | (with_reducible first | exact HB.out | apply below_alloc | apply pw_below_drewN | apply below_drew1) | exact HB.out)) hb); clear HB; have HB := n0_; clear n0_; (try clear hb); (try clear hb2); (try clear hk); (try clear hi))); go_upto_region 4 with (first | (go_at_call 29; (with_reducible refine (legatelaw07_works.calls (gw := ?sideG) k  true _ A7.out).mono ?_); (case sideG => exact GW.below HG.out (by repeat (first | (with_reducible first | exact HB.out | apply below_alloc | apply pw_below_drewN | apply below_drew1) | exact HB.out))); rintro e w10 ⟨rfl, hb⟩; have n0_ := Aside0.mk (below_step (by repeat (first | (with_reducible first | exact HB.out | apply below_alloc | apply pw_below_drewN | apply below_drew1) | exact HB.out)) hb); clear HB; have HB := n0_; clear n0_; (try clear hb); (try clear hb2); (try clear hk); (try clear hi))))
    (try simp only [Act.put, List.setIfInBounds_toArray, List.set_cons_zero, List.set_cons_succ])
    go_cut [46] (fun v46 wc => ∃ (kq : Nat) (x46_8 : Bool), v46 = .bool x46_8 ∧ Aside0 (legatelaw07_SealNonce.j0 kq a0 a1 a2 a3 a4 a5 true x46_8 = some r) ∧ Aside0 (kq ≤ k) ∧ Aside0 (Below w.heap.size w wc))
    case first =>
      have H := HC9.out
      clear HC9
      by_cases c11 : (a0.size : Int) > 500
      · rw [if_pos c11] at H
        have c11b0 : decide (500 < (a0.size : Int)) = true := decide_eq_true c11
        have c11b1 : decide (500 < a0.size) = true := decide_eq_true (by omega)
        clear c11
        (first | rw [c11b0] | (simp only [i64_w, i32_w]; rw [c11b0]) | skip)
        have H' := Aside0.mk H
        clear H
        go_wp2
        repeat (go_quiet (fail); try go_wp2)
        go_meet
        case rel => exact ⟨_, (true), (by first | rfl | (simp; done) | (simp [*]; done)), H', ⟨by first | omega | exact Nat.le_refl _⟩, ⟨by repeat (first | (with_reducible first | exact HB.out | apply below_alloc | apply pw_below_drewN | apply below_drew1) | exact HB.out)⟩⟩
      · rw [if_neg c11] at H
        have c11b0 : decide (500 < (a0.size : Int)) = false := decide_eq_false c11
        have c11b1 : decide (500 < a0.size) = false := decide_eq_false (by omega)
        clear c11
        (first | rw [c11b0] | (simp only [i64_w, i32_w]; rw [c11b0]) | skip)
        by_cases c12 : (a2.size : Int) = 12
        · rw [if_pos c12] at H
          have c12b0 : ((a2.size : Int) == 12) = true := beq_iff_eq.mpr c12
          have c12b1 : ((a2.size : Int) != 12) = false := bne_eq_false_iff_eq.mpr c12
          clear c12
          by_cases c13 : (a3.size : Int) = 12
          · rw [if_pos c13] at H
            have c13b0 : ((a3.size : Int) == 12) = true := beq_iff_eq.mpr c13
            have c13b1 : ((a3.size : Int) != 12) = false := bne_eq_false_iff_eq.mpr c13
            clear c13
            by_cases c14 : (a4.size : Int) > 500
            · rw [if_pos c14] at H
              have c14b0 : decide (500 < (a4.size : Int)) = true := decide_eq_true c14
              have c14b1 : decide (500 < a4.size) = true := decide_eq_true (by omega)
              clear c14
              have H' := Aside0.mk H
              clear H
              go_wp2
              repeat (go_quiet (fail); try go_wp2)
              go_meet
              case rel => exact ⟨_, (true), (by first | rfl | (simp; done) | (simp [*]; done)), H', ⟨by first | omega | exact Nat.le_refl _⟩, ⟨by repeat (first | (with_reducible first | exact HB.out | apply below_alloc | apply pw_below_drewN | apply below_drew1) | exact HB.out)⟩⟩
            · rw [if_neg c14] at H
              have c14b0 : decide (500 < (a4.size : Int)) = false := decide_eq_false c14
              have c14b1 : decide (500 < a4.size) = false := decide_eq_false (by omega)
              clear c14
              have H' := Aside0.mk H
              clear H
              go_wp2
              repeat (go_quiet (fail); try go_wp2)
              go_meet
              case rel => exact ⟨_, (decide ((a5.size : Int) > 500)), (by first | rfl | (simp; done) | (simp [*]; done)), H', ⟨by first | omega | exact Nat.le_refl _⟩, ⟨by repeat (first | (with_reducible first | exact HB.out | apply below_alloc | apply pw_below_drewN | apply below_drew1) | exact HB.out)⟩⟩
          · rw [if_neg c13] at H
            have c13b0 : ((a3.size : Int) == 12) = false := beq_eq_false_iff_ne.mpr c13
            have c13b1 : ((a3.size : Int) != 12) = true := bne_iff_ne.mpr c13
            have H' := Aside0.mk H
            clear H
            go_wp2
            repeat (go_quiet (fail); try go_wp2)
            go_meet
            case rel => exact ⟨_, (true), (by first | rfl | (simp; done) | (simp [*]; done)), H', ⟨by first | omega | exact Nat.le_refl _⟩, ⟨by repeat (first | (with_reducible first | exact HB.out | apply below_alloc | apply pw_below_drewN | apply below_drew1) | exact HB.out)⟩⟩
        · rw [if_neg c12] at H
          have c12b0 : ((a2.size : Int) == 12) = false := beq_eq_false_iff_ne.mpr c12
          have c12b1 : ((a2.size : Int) != 12) = true := bne_iff_ne.mpr c12
          have H' := Aside0.mk H
          clear H
          go_wp2
          repeat (go_quiet (fail); try go_wp2)
          go_meet
          case rel => exact ⟨_, (true), (by first | rfl | (simp; done) | (simp [*]; done)), H', ⟨by first | omega | exact Nat.le_refl _⟩, ⟨by repeat (first | (with_reducible first | exact HB.out | apply below_alloc | apply pw_below_drewN | apply below_drew1) | exact HB.out)⟩⟩
    case rest =>
      clear HC9
      try clear c1
      try clear p2
      try clear c8
      try clear c9
      try clear c11
      try clear c11b0
      try clear c11b1
      try clear c12
      try clear c12b0
      try clear c12b1
      try clear c13
      try clear c13b0
      try clear c13b1
      try clear c14
      try clear c14b0
      try clear c14b1
      obtain ⟨kq, x46_8, rfl, HA, HJ8, HB⟩ := hcut
      cases kq with
      | zero => exact absurd HA.out (by simp [legatelaw07_SealNonce.j0])
      | succ kj8 =>
        have H := HA.out
        clear HA
        simp only [legatelaw07_SealNonce.j0] at H
        by_cases c15 : x46_8 = true
        · subst c15
          have H1 : (some true) = some r := by rw [if_pos rfl] at H; exact H
          clear H
          have H := H1
          clear H1
          obtain rfl := Option.some.inj H
          go_wp2
          repeat (go_quiet (fail); try go_wp2)
          go_ret
          exact ⟨by first | rfl | (simp [errW_none, errW_some] <;> rfl) | (simp [*, errW_none, errW_some] <;> rfl), by repeat (first | (with_reducible first | exact HB.out | apply below_alloc | apply pw_below_drewN | apply below_drew1) | exact HB.out)⟩
        · replace c15 := Bool.eq_false_iff.mpr c15
          subst c15
          have H1 : ((seal_Seal.f kj8 a0 a1 a2 a4).bind fun bt306 => ((seal_Seal.f kj8 a0 a1 a2 a5).bind fun bt308 => ((seal_Seal.f kj8 a0 a1 a3 a4).bind fun bt310 => (if bt306.2 = 0 then (if bt308.2 = 0 then (if bt310.2 = 0 then (legatelaw07_SealNonce.j1 kj8 a4 a5 true bt306.1 bt308.1 ((a2.toList == a3.toList) != (bt306.1.toList == bt310.1.toList))) else (legatelaw07_SealNonce.j1 kj8 a4 a5 true bt306.1 bt308.1 true)) else (legatelaw07_SealNonce.j1 kj8 a4 a5 true bt306.1 bt308.1 true)) else (legatelaw07_SealNonce.j1 kj8 a4 a5 true bt306.1 bt308.1 true))))) = some r := by rw [if_neg (show ¬ (false = true) by decide)] at H; exact H
          clear H
          have H := H1
          clear H1
          replace H := Option.bind_eq_some_iff.mp H
          obtain ⟨⟨t306, t307⟩, A160, H⟩ := H
          replace H : ((seal_Seal.f kj8 a0 a1 a2 a5).bind fun bt308 => ((seal_Seal.f kj8 a0 a1 a3 a4).bind fun bt310 => (if t307 = 0 then (if bt308.2 = 0 then (if bt310.2 = 0 then (legatelaw07_SealNonce.j1 kj8 a4 a5 true t306 bt308.1 ((a2.toList == a3.toList) != (t306.toList == bt310.1.toList))) else (legatelaw07_SealNonce.j1 kj8 a4 a5 true t306 bt308.1 true)) else (legatelaw07_SealNonce.j1 kj8 a4 a5 true t306 bt308.1 true)) else (legatelaw07_SealNonce.j1 kj8 a4 a5 true t306 bt308.1 true)))) = some r := H
          have A16 := Aside0.mk A160
          clear A160
          replace H := Option.bind_eq_some_iff.mp H
          obtain ⟨⟨t308, t309⟩, A170, H⟩ := H
          replace H : ((seal_Seal.f kj8 a0 a1 a3 a4).bind fun bt310 => (if t307 = 0 then (if t309 = 0 then (if bt310.2 = 0 then (legatelaw07_SealNonce.j1 kj8 a4 a5 true t306 t308 ((a2.toList == a3.toList) != (t306.toList == bt310.1.toList))) else (legatelaw07_SealNonce.j1 kj8 a4 a5 true t306 t308 true)) else (legatelaw07_SealNonce.j1 kj8 a4 a5 true t306 t308 true)) else (legatelaw07_SealNonce.j1 kj8 a4 a5 true t306 t308 true))) = some r := H
          have A17 := Aside0.mk A170
          clear A170
          replace H := Option.bind_eq_some_iff.mp H
          obtain ⟨⟨t310, t311⟩, A180, H⟩ := H
          replace H : (if t307 = 0 then (if t309 = 0 then (if t311 = 0 then (legatelaw07_SealNonce.j1 kj8 a4 a5 true t306 t308 ((a2.toList == a3.toList) != (t306.toList == t310.toList))) else (legatelaw07_SealNonce.j1 kj8 a4 a5 true t306 t308 true)) else (legatelaw07_SealNonce.j1 kj8 a4 a5 true t306 t308 true)) else (legatelaw07_SealNonce.j1 kj8 a4 a5 true t306 t308 true)) = some r := H
          have A18 := Aside0.mk A180
          clear A180
          have HC19 := Aside0.mk H
          clear H
          go_upto_region 9 with (first | (go_at_call 30; (with_reducible refine (seal_Seal.calls (gw := ?sideG) kj8 a0 a1 a2 a4 t306 t307 _ A16.out).mono ?_); (case sideG => exact GW.below HG.out (by repeat (first | (with_reducible first | exact HB.out | apply below_alloc | apply pw_below_drewN | apply below_drew1) | exact HB.out))); rintro e w20 ⟨rfl, hb⟩; have n0_ := Aside0.mk (below_step (by repeat (first | (with_reducible first | exact HB.out | apply below_alloc | apply pw_below_drewN | apply below_drew1) | exact HB.out)) hb); clear HB; have HB := n0_; clear n0_; (try clear hb); (try clear hb2); (try clear hk); (try clear hi)) | (go_at_call 30; (with_reducible refine (seal_Seal.calls (gw := ?sideG) kj8 a0 a1 a2 a5 t308 t309 _ A17.out).mono ?_); (case sideG => exact GW.below HG.out (by repeat (first | (with_reducible first | exact HB.out | apply below_alloc | apply pw_below_drewN | apply below_drew1) | exact HB.out))); rintro e w21 ⟨rfl, hb⟩; have n0_ := Aside0.mk (below_step (by repeat (first | (with_reducible first | exact HB.out | apply below_alloc | apply pw_below_drewN | apply below_drew1) | exact HB.out)) hb); clear HB; have HB := n0_; clear n0_; (try clear hb); (try clear hb2); (try clear hk); (try clear hi)) | (go_at_call 30; (with_reducible refine (seal_Seal.calls (gw := ?sideG) kj8 a0 a1 a3 a4 t310 t311 _ A18.out).mono ?_); (case sideG => exact GW.below HG.out (by repeat (first | (with_reducible first | exact HB.out | apply below_alloc | apply pw_below_drewN | apply below_drew1) | exact HB.out))); rintro e w22 ⟨rfl, hb⟩; have n0_ := Aside0.mk (below_step (by repeat (first | (with_reducible first | exact HB.out | apply below_alloc | apply pw_below_drewN | apply below_drew1) | exact HB.out)) hb); clear HB; have HB := n0_; clear n0_; (try clear hb); (try clear hb2); (try clear hk); (try clear hi)))
          repeat (go_quiet (first | (go_at_call 30; (with_reducible refine (seal_Seal.calls (gw := ?sideG) kj8 a0 a1 a2 a4 t306 t307 _ A16.out).mono ?_); (case sideG => exact GW.below HG.out (by repeat (first | (with_reducible first | exact HB.out | apply below_alloc | apply pw_below_drewN | apply below_drew1) | exact HB.out))); rintro e w20 ⟨rfl, hb⟩; have n0_ := Aside0.mk (below_step (by repeat (first | (with_reducible first | exact HB.out | apply below_alloc | apply pw_below_drewN | apply below_drew1) | exact HB.out)) hb); clear HB; have HB := n0_; clear n0_; (try clear hb); (try clear hb2); (try clear hk); (try clear hi)) | (go_at_call 30; (with_reducible refine (seal_Seal.calls (gw := ?sideG) kj8 a0 a1 a2 a5 t308 t309 _ A17.out).mono ?_); (case sideG => exact GW.below HG.out (by repeat (first | (with_reducible first | exact HB.out | apply below_alloc | apply pw_below_drewN | apply below_drew1) | exact HB.out))); rintro e w21 ⟨rfl, hb⟩; have n0_ := Aside0.mk (below_step (by repeat (first | (with_reducible first | exact HB.out | apply below_alloc | apply pw_below_drewN | apply below_drew1) | exact HB.out)) hb); clear HB; have HB := n0_; clear n0_; (try clear hb); (try clear hb2); (try clear hk); (try clear hi)) | (go_at_call 30; (with_reducible refine (seal_Seal.calls (gw := ?sideG) kj8 a0 a1 a3 a4 t310 t311 _ A18.out).mono ?_); (case sideG => exact GW.below HG.out (by repeat (first | (with_reducible first | exact HB.out | apply below_alloc | apply pw_below_drewN | apply below_drew1) | exact HB.out))); rintro e w22 ⟨rfl, hb⟩; have n0_ := Aside0.mk (below_step (by repeat (first | (with_reducible first | exact HB.out | apply below_alloc | apply pw_below_drewN | apply below_drew1) | exact HB.out)) hb); clear HB; have HB := n0_; clear n0_; (try clear hb); (try clear hb2); (try clear hk); (try clear hi))); go_upto_region 9 with (first | (go_at_call 30; (with_reducible refine (seal_Seal.calls (gw := ?sideG) kj8 a0 a1 a2 a4 t306 t307 _ A16.out).mono ?_); (case sideG => exact GW.below HG.out (by repeat (first | (with_reducible first | exact HB.out | apply below_alloc | apply pw_below_drewN | apply below_drew1) | exact HB.out))); rintro e w20 ⟨rfl, hb⟩; have n0_ := Aside0.mk (below_step (by repeat (first | (with_reducible first | exact HB.out | apply below_alloc | apply pw_below_drewN | apply below_drew1) | exact HB.out)) hb); clear HB; have HB := n0_; clear n0_; (try clear hb); (try clear hb2); (try clear hk); (try clear hi)) | (go_at_call 30; (with_reducible refine (seal_Seal.calls (gw := ?sideG) kj8 a0 a1 a2 a5 t308 t309 _ A17.out).mono ?_); (case sideG => exact GW.below HG.out (by repeat (first | (with_reducible first | exact HB.out | apply below_alloc | apply pw_below_drewN | apply below_drew1) | exact HB.out))); rintro e w21 ⟨rfl, hb⟩; have n0_ := Aside0.mk (below_step (by repeat (first | (with_reducible first | exact HB.out | apply below_alloc | apply pw_below_drewN | apply below_drew1) | exact HB.out)) hb); clear HB; have HB := n0_; clear n0_; (try clear hb); (try clear hb2); (try clear hk); (try clear hi)) | (go_at_call 30; (with_reducible refine (seal_Seal.calls (gw := ?sideG) kj8 a0 a1 a3 a4 t310 t311 _ A18.out).mono ?_); (case sideG => exact GW.below HG.out (by repeat (first | (with_reducible first | exact HB.out | apply below_alloc | apply pw_below_drewN | apply below_drew1) | exact HB.out))); rintro e w22 ⟨rfl, hb⟩; have n0_ := Aside0.mk (below_step (by repeat (first | (with_reducible first | exact HB.out | apply below_alloc | apply pw_below_drewN | apply below_drew1) | exact HB.out)) hb); clear HB; have HB := n0_; clear n0_; (try clear hb); (try clear hb2); (try clear hk); (try clear hi))))
          (try simp only [Act.put, List.setIfInBounds_toArray, List.set_cons_zero, List.set_cons_succ])
          go_cut [90] (fun v90 wc => ∃ (kq : Nat) (x90_18 : Bool), v90 = .bool x90_18 ∧ Aside0 (legatelaw07_SealNonce.j1 kq a4 a5 true t306 t308 x90_18 = some r) ∧ Aside0 (kq ≤ kj8) ∧ Aside0 (Below w.heap.size w wc))
          case first =>
            have H := HC19.out
            clear HC19
            by_cases c23 : t307 = 0
            · rw [if_pos c23] at H
              have c23b0 : (t307 == 0) = true := beq_iff_eq.mpr c23
              have c23b1 : (t307 != 0) = false := bne_eq_false_iff_eq.mpr c23
              clear c23
              (first | rw [c23b0] | (simp only [i64_w, i32_w]; rw [c23b0]) | skip)
              by_cases c24 : t309 = 0
              · rw [if_pos c24] at H
                have c24b0 : (t309 == 0) = true := beq_iff_eq.mpr c24
                have c24b1 : (t309 != 0) = false := bne_eq_false_iff_eq.mpr c24
                clear c24
                by_cases c25 : t311 = 0
                · rw [if_pos c25] at H
                  have c25b0 : (t311 == 0) = true := beq_iff_eq.mpr c25
                  have c25b1 : (t311 != 0) = false := bne_eq_false_iff_eq.mpr c25
                  clear c25
                  have H' := Aside0.mk H
                  clear H
                  go_wp2
                  repeat (go_quiet (fail); try go_wp2)
                  go_meet
                  case rel => exact ⟨_, (((a2.toList == a3.toList) != (t306.toList == t310.toList))), (by first | rfl | (simp; done) | (simp [*]; done)), H', ⟨by have := HJ8.out; first | omega | exact Nat.le_refl _⟩, ⟨by repeat (first | (with_reducible first | exact HB.out | apply below_alloc | apply pw_below_drewN | apply below_drew1) | exact HB.out)⟩⟩
                · rw [if_neg c25] at H
                  have c25b0 : (t311 == 0) = false := beq_eq_false_iff_ne.mpr c25
                  have c25b1 : (t311 != 0) = true := bne_iff_ne.mpr c25
                  have H' := Aside0.mk H
                  clear H
                  go_wp2
                  repeat (go_quiet (fail); try go_wp2)
                  go_meet
                  case rel => exact ⟨_, (true), (by first | rfl | (simp; done) | (simp [*]; done)), H', ⟨by have := HJ8.out; first | omega | exact Nat.le_refl _⟩, ⟨by repeat (first | (with_reducible first | exact HB.out | apply below_alloc | apply pw_below_drewN | apply below_drew1) | exact HB.out)⟩⟩
              · rw [if_neg c24] at H
                have c24b0 : (t309 == 0) = false := beq_eq_false_iff_ne.mpr c24
                have c24b1 : (t309 != 0) = true := bne_iff_ne.mpr c24
                have H' := Aside0.mk H
                clear H
                go_wp2
                repeat (go_quiet (fail); try go_wp2)
                go_meet
                case rel => exact ⟨_, (true), (by first | rfl | (simp; done) | (simp [*]; done)), H', ⟨by have := HJ8.out; first | omega | exact Nat.le_refl _⟩, ⟨by repeat (first | (with_reducible first | exact HB.out | apply below_alloc | apply pw_below_drewN | apply below_drew1) | exact HB.out)⟩⟩
            · rw [if_neg c23] at H
              have c23b0 : (t307 == 0) = false := beq_eq_false_iff_ne.mpr c23
              have c23b1 : (t307 != 0) = true := bne_iff_ne.mpr c23
              (first | rw [c23b0] | (simp only [i64_w, i32_w]; rw [c23b0]) | skip)
              have H' := Aside0.mk H
              clear H
              go_wp2
              repeat (go_quiet (fail); try go_wp2)
              go_meet
              case rel => exact ⟨_, (true), (by first | rfl | (simp; done) | (simp [*]; done)), H', ⟨by have := HJ8.out; first | omega | exact Nat.le_refl _⟩, ⟨by repeat (first | (with_reducible first | exact HB.out | apply below_alloc | apply pw_below_drewN | apply below_drew1) | exact HB.out)⟩⟩
          case rest =>
            clear HC19
            try clear c1
            try clear c2
            try clear p2
            try clear c8
            try clear c9
            try clear c11
            try clear c11b0
            try clear c11b1
            try clear c12
            try clear c12b0
            try clear c12b1
            try clear c13
            try clear c13b0
            try clear c13b1
            try clear c14
            try clear c14b0
            try clear c14b1
            try clear c15
            try clear c23
            try clear c23b0
            try clear c23b1
            try clear c24
            try clear c24b0
            try clear c24b1
            try clear c25
            try clear c25b0
            try clear c25b1
            try clear p2
            obtain ⟨kq, x90_18, rfl, HA, HJ18, HB⟩ := hcut
            cases kq with
            | zero => exact absurd HA.out (by simp [legatelaw07_SealNonce.j1])
            | succ kj18 =>
              have H := HA.out
              clear HA
              simp only [legatelaw07_SealNonce.j1] at H
              by_cases c26 : x90_18 = true
              · subst c26
                have H1 : (some false) = some r := by rw [if_pos rfl] at H; exact H
                clear H
                have H := H1
                clear H1
                obtain rfl := Option.some.inj H
                go_wp2
                repeat (go_quiet (fail); try go_wp2)
                go_ret
                exact ⟨by first | rfl | (simp [errW_none, errW_some] <;> rfl) | (simp [*, errW_none, errW_some] <;> rfl), by repeat (first | (with_reducible first | exact HB.out | apply below_alloc | apply pw_below_drewN | apply below_drew1) | exact HB.out)⟩
              · replace c26 := Bool.eq_false_iff.mpr c26
                subst c26
                have H1 : (legatelaw07_SealNonce.l0 kj18 a4 a5 true t306 t308 0) = some r := by rw [if_neg (show ¬ (false = true) by decide)] at H; exact H
                clear H
                have H := H1
                clear H1
                have H' := Aside0.mk H
                clear H
                go_wp2
                repeat (go_quiet (fail); try go_wp2)
                go_loopg [20] kj18 (fun kq v20 w' => ∃ (x20_3 : Int), v20 = .int .i64 x20_3 ∧ Aside0 (legatelaw07_SealNonce.l0 kq a4 a5 true t306 t308 x20_3 = some r) ∧ Aside0 (kq ≤ kj18) ∧ Aside0 (Below w.heap.size w w'))
                case atStart => exact ⟨(0), (by first | rfl | (simp; done) | (simp [*]; done)), H', ⟨Nat.le_refl _⟩, ⟨by repeat (first | (with_reducible first | exact HB.out | apply below_alloc | apply pw_below_drewN | apply below_drew1) | exact HB.out)⟩⟩
                case round =>
                  clear H'
                  try clear c1
                  try clear c2
                  try clear p2
                  try clear c8
                  try clear c9
                  try clear c11
                  try clear c11b0
                  try clear c11b1
                  try clear c12
                  try clear c12b0
                  try clear c12b1
                  try clear c13
                  try clear c13b0
                  try clear c13b1
                  try clear c14
                  try clear c14b0
                  try clear c14b1
                  try clear c15
                  try clear c23
                  try clear c23b0
                  try clear c23b1
                  try clear c24
                  try clear c24b0
                  try clear c24b1
                  try clear c25
                  try clear c25b0
                  try clear c25b1
                  try clear c26
                  try clear p2
                  obtain ⟨x20_3, rfl, HA, HK3, HB⟩ := hrel
                  cases gk with
                  | zero => exact absurd HA.out (by simp [legatelaw07_SealNonce.l0])
                  | succ k3 =>
                    have H := HA.out
                    clear HA
                    simp only [legatelaw07_SealNonce.l0] at H
                    have HC27 := Aside0.mk H
                    clear H
                    go_upto_region 12 with (fail)
                    repeat (go_quiet (fail); go_upto_region 12 with (fail))
                    go_cut [100] (fun v100 wc => ∃ (kq : Nat) (x100_26 : Bool), v100 = .bool x100_26 ∧ Aside0 (legatelaw07_SealNonce.j3 kq a4 a5 true t306 t308 x20_3 x100_26 = some r) ∧ Aside0 (kq ≤ k3) ∧ Aside0 (Below w.heap.size w wc))
                    case first =>
                      have H := HC27.out
                      clear HC27
                      by_cases c28 : x20_3 < (a4.size : Int)
                      · rw [if_pos c28] at H
                        have c28b0 : decide (x20_3 < (a4.size : Int)) = true := decide_eq_true c28
                        clear c28
                        (first | rw [c28b0] | (simp only [i64_w, i32_w]; rw [c28b0]) | skip)
                        have H' := Aside0.mk H
                        clear H
                        go_wp2
                        repeat (go_quiet (fail); try go_wp2)
                        go_meet
                        case rel => exact ⟨_, (decide (x20_3 < (a5.size : Int))), (by first | rfl | (simp; done) | (simp [*]; done)), H', ⟨by have := HJ8.out; have := HJ18.out; have := HK3.out; first | omega | exact Nat.le_refl _⟩, ⟨by repeat (first | (with_reducible first | exact HB.out | apply below_alloc | apply pw_below_drewN | apply below_drew1) | exact HB.out)⟩⟩
                      · rw [if_neg c28] at H
                        have c28b0 : decide (x20_3 < (a4.size : Int)) = false := decide_eq_false c28
                        clear c28
                        (first | rw [c28b0] | (simp only [i64_w, i32_w]; rw [c28b0]) | skip)
                        have H' := Aside0.mk H
                        clear H
                        go_wp2
                        repeat (go_quiet (fail); try go_wp2)
                        go_meet
                        case rel => exact ⟨_, (false), (by first | rfl | (simp; done) | (simp [*]; done)), H', ⟨by have := HJ8.out; have := HJ18.out; have := HK3.out; first | omega | exact Nat.le_refl _⟩, ⟨by repeat (first | (with_reducible first | exact HB.out | apply below_alloc | apply pw_below_drewN | apply below_drew1) | exact HB.out)⟩⟩
                    case rest =>
                      clear HC27
                      try clear c1
                      try clear c2
                      try clear p2
                      try clear c8
                      try clear c9
                      try clear c11
                      try clear c11b0
                      try clear c11b1
                      try clear c12
                      try clear c12b0
                      try clear c12b1
                      try clear c13
                      try clear c13b0
                      try clear c13b1
                      try clear c14
                      try clear c14b0
                      try clear c14b1
                      try clear c15
                      try clear c23
                      try clear c23b0
                      try clear c23b1
                      try clear c24
                      try clear c24b0
                      try clear c24b1
                      try clear c25
                      try clear c25b0
                      try clear c25b1
                      try clear c26
                      try clear c28
                      try clear c28b0
                      try clear p2
                      obtain ⟨kq, x100_26, rfl, HA, HJ26, HB⟩ := hcut
                      cases kq with
                      | zero => exact absurd HA.out (by simp [legatelaw07_SealNonce.j3])
                      | succ kj26 =>
                        have H := HA.out
                        clear HA
                        simp only [legatelaw07_SealNonce.j3] at H
                        by_cases c29 : x100_26 = true
                        · subst c29
                          have H1 : (if 0 ≤ x20_3 then (if x20_3 < (a4.size : Int) then (if x20_3 < (a5.size : Int) then (if 0 ≤ (wrap64 (12 + x20_3)) then (if (wrap64 (12 + x20_3)) < (t306.size : Int) then (if (wrap64 (12 + x20_3)) < (t308.size : Int) then (if (((bt a4 x20_3) == (bt a5 x20_3)) != ((bt t306 (wrap64 (12 + x20_3))) == (bt t308 (wrap64 (12 + x20_3))))) = true then (some false) else (legatelaw07_SealNonce.l0 kj26 a4 a5 true t306 t308 (wrap64 (x20_3 + 1)))) else (none)) else (none)) else (none)) else (none)) else (none)) else (none)) = some r := by rw [if_pos rfl] at H; exact H
                          clear H
                          have H := H1
                          clear H1
                          by_cases c30 : 0 ≤ x20_3
                          · rw [if_pos c30] at H
                            have c30b0 : decide (0 ≤ x20_3) = true := decide_eq_true c30
                            clear c30
                            by_cases c31 : x20_3 < (a4.size : Int)
                            · rw [if_pos c31] at H
                              have c31b0 : decide (x20_3 < (a4.size : Int)) = true := decide_eq_true c31
                              clear c31
                              by_cases c33 : x20_3 < (a5.size : Int)
                              · rw [if_pos c33] at H
                                have c33b0 : decide (x20_3 < (a5.size : Int)) = true := decide_eq_true c33
                                clear c33
                                obtain ⟨ji35, hji35⟩ : ∃ j_ : Int, (wrap64 (12 + x20_3)) = j_ := ⟨_, rfl⟩
                                replace H : (if 0 ≤ (ji35) then (if (ji35) < (t306.size : Int) then (if (ji35) < (t308.size : Int) then (if (((bt a4 x20_3) == (bt a5 x20_3)) != ((bt t306 (ji35)) == (bt t308 (ji35)))) = true then (some false) else (legatelaw07_SealNonce.l0 kj26 a4 a5 true t306 t308 (wrap64 (x20_3 + 1)))) else (none)) else (none)) else (none)) = some r := by first | (rw [hji35] at H; exact H) | (simp only [hji35] at H ⊢; exact H)
                                have hji35w : (IntKind.i64.wrap (12 + x20_3)) = ji35 := (i64_w _).trans hji35
                                by_cases c36 : 0 ≤ (ji35)
                                · rw [if_pos c36] at H
                                  have c36b0 : decide (0 ≤ (ji35)) = true := decide_eq_true c36
                                  clear c36
                                  by_cases c37 : (ji35) < (t306.size : Int)
                                  · rw [if_pos c37] at H
                                    have c37b0 : decide ((ji35) < (t306.size : Int)) = true := decide_eq_true c37
                                    clear c37
                                    by_cases c39 : (ji35) < (t308.size : Int)
                                    · rw [if_pos c39] at H
                                      have c39b0 : decide ((ji35) < (t308.size : Int)) = true := decide_eq_true c39
                                      clear c39
                                      by_cases c41 : (((bt a4 x20_3) == (bt a5 x20_3)) != ((bt t306 (ji35)) == (bt t308 (ji35)))) = true
                                      · rw [if_pos c41] at H
                                        have c41b0 : (((bt a4 x20_3) == (bt a5 x20_3)) != ((bt t306 (ji35)) == (bt t308 (ji35)))) = true := c41
                                        (try (have c41b1 : decide (((bt a4 x20_3) == (bt a5 x20_3)) = ((bt t306 (ji35)) == (bt t308 (ji35)))) = false := by simpa using c41))
                                        (try (have c41b2 : (((bt a4 x20_3) == (bt a5 x20_3)) == ((bt t306 (ji35)) == (bt t308 (ji35)))) = false := by simpa using c41))
                                        (try (have c41b3 : ¬ (((bt a4 x20_3) == (bt a5 x20_3)) = ((bt t306 (ji35)) == (bt t308 (ji35)))) := by simpa using c41))
                                        clear c41
                                        obtain rfl := Option.some.inj H
                                        have p32 : 0 ≤ (x20_3 : Int) := of_decide_eq_true (by first | (with_reducible assumption) | assumption)
                                        have q32 : x20_3 < (a4.size : Int) := of_decide_eq_true (by first | (with_reducible assumption) | assumption)
                                        have hx32 := bt_at a4 x20_3
                                        replace p32 := eq_true p32
                                        replace q32 := eq_true q32
                                        have p34 : 0 ≤ (x20_3 : Int) := of_decide_eq_true (by first | (with_reducible assumption) | assumption)
                                        have q34 : x20_3 < (a5.size : Int) := of_decide_eq_true (by first | (with_reducible assumption) | assumption)
                                        have hx34 := bt_at a5 x20_3
                                        replace p34 := eq_true p34
                                        replace q34 := eq_true q34
                                        have p38 : 0 ≤ ((ji35) : Int) := of_decide_eq_true (by first | (with_reducible assumption) | assumption)
                                        have q38 : (ji35) < (t306.size : Int) := of_decide_eq_true (by first | (with_reducible assumption) | assumption)
                                        have hx38 := bt_at t306 (ji35)
                                        replace p38 := eq_true p38
                                        replace q38 := eq_true q38
                                        have p40 : 0 ≤ ((ji35) : Int) := of_decide_eq_true (by first | (with_reducible assumption) | assumption)
                                        have q40 : (ji35) < (t308.size : Int) := of_decide_eq_true (by first | (with_reducible assumption) | assumption)
                                        have hx40 := bt_at t308 (ji35)
                                        replace p40 := eq_true p40
                                        replace q40 := eq_true q40
                                        go_wp2
                                        repeat (go_quiet (fail); try go_wp2)
                                        go_ret
                                        exact ⟨by first | rfl | (simp [errW_none, errW_some] <;> rfl) | (simp only [← hji35]; first | rfl | (simp [errW_none, errW_some] <;> rfl)) | (simp [*, errW_none, errW_some] <;> rfl), by repeat (first | (with_reducible first | exact HB.out | apply below_alloc | apply pw_below_drewN | apply below_drew1) | exact HB.out)⟩
                                      · rw [if_neg c41] at H
                                        have c41b0 : (((bt a4 x20_3) == (bt a5 x20_3)) != ((bt t306 (ji35)) == (bt t308 (ji35)))) = false := by simpa using c41
                                        (try (have c41b1 : decide (((bt a4 x20_3) == (bt a5 x20_3)) = ((bt t306 (ji35)) == (bt t308 (ji35)))) = true := by simpa using c41))
                                        (try (have c41b2 : (((bt a4 x20_3) == (bt a5 x20_3)) == ((bt t306 (ji35)) == (bt t308 (ji35)))) = true := by simpa using c41))
                                        clear c41
                                        have H' := Aside0.mk H
                                        clear H
                                        have p32 : 0 ≤ (x20_3 : Int) := of_decide_eq_true (by first | (with_reducible assumption) | assumption)
                                        have q32 : x20_3 < (a4.size : Int) := of_decide_eq_true (by first | (with_reducible assumption) | assumption)
                                        have hx32 := bt_at a4 x20_3
                                        replace p32 := eq_true p32
                                        replace q32 := eq_true q32
                                        have p34 : 0 ≤ (x20_3 : Int) := of_decide_eq_true (by first | (with_reducible assumption) | assumption)
                                        have q34 : x20_3 < (a5.size : Int) := of_decide_eq_true (by first | (with_reducible assumption) | assumption)
                                        have hx34 := bt_at a5 x20_3
                                        replace p34 := eq_true p34
                                        replace q34 := eq_true q34
                                        have p38 : 0 ≤ ((ji35) : Int) := of_decide_eq_true (by first | (with_reducible assumption) | assumption)
                                        have q38 : (ji35) < (t306.size : Int) := of_decide_eq_true (by first | (with_reducible assumption) | assumption)
                                        have hx38 := bt_at t306 (ji35)
                                        replace p38 := eq_true p38
                                        replace q38 := eq_true q38
                                        have p40 : 0 ≤ ((ji35) : Int) := of_decide_eq_true (by first | (with_reducible assumption) | assumption)
                                        have q40 : (ji35) < (t308.size : Int) := of_decide_eq_true (by first | (with_reducible assumption) | assumption)
                                        have hx40 := bt_at t308 (ji35)
                                        replace p40 := eq_true p40
                                        replace q40 := eq_true q40
                                        go_wp2
                                        repeat (go_quiet (fail); try go_wp2)
                                        go_roundg kj26
                                        case measure => have := HJ8.out; have := HJ18.out; have := HK3.out; have := HJ26.out; omega
                                        case rel => exact ⟨(wrap64 (x20_3 + 1)), (by first | rfl | (simp; done) | (simp [*]; done)), H', ⟨by have := HJ8.out; have := HJ18.out; have := HK3.out; have := HJ26.out; omega⟩, ⟨by repeat (first | (with_reducible first | exact HB.out | apply below_alloc | apply pw_below_drewN | apply below_drew1) | exact HB.out)⟩⟩
                                    · rw [if_neg c39] at H
                                      exact absurd H (by simp)
                                  · rw [if_neg c37] at H
                                    exact absurd H (by simp)
                                · rw [if_neg c36] at H
                                  exact absurd H (by simp)
                              · rw [if_neg c33] at H
                                exact absurd H (by simp)
                            · rw [if_neg c31] at H
                              exact absurd H (by simp)
                          · rw [if_neg c30] at H
                            exact absurd H (by simp)
                        · replace c29 := Bool.eq_false_iff.mpr c29
                          subst c29
                          have H1 : (some true) = some r := by rw [if_neg (show ¬ (false = true) by decide)] at H; exact H
                          clear H
                          have H := H1
                          clear H1
                          obtain rfl := Option.some.inj H
                          go_wp2
                          repeat (go_quiet (fail); try go_wp2)
                          go_ret
                          exact ⟨by first | rfl | (simp [errW_none, errW_some] <;> rfl) | (simp [*, errW_none, errW_some] <;> rfl), by repeat (first | (with_reducible first | exact HB.out | apply below_alloc | apply pw_below_drewN | apply below_drew1) | exact HB.out)⟩
  · replace c8 := Bool.eq_false_iff.mpr c8
    subst c8
    have H1 : (some false) = some r := by rw [if_neg (show ¬ (false = true) by decide)] at H; exact H
    clear H
    have H := H1
    clear H1
    obtain rfl := Option.some.inj H
    go_enter Tryd.func9, Tryd.ntmps9
    go_wp2_with (first | (go_at_call 29; (with_reducible refine (legatelaw07_works.calls (gw := ?sideG) k  false _ A7.out).mono ?_); (case sideG => exact GW.below HG.out (by repeat (first | (with_reducible first | exact HB.out | apply below_alloc | apply pw_below_drewN | apply below_drew1) | exact HB.out))); rintro e w42 ⟨rfl, hb⟩; have n0_ := Aside0.mk (below_step (by repeat (first | (with_reducible first | exact HB.out | apply below_alloc | apply pw_below_drewN | apply below_drew1) | exact HB.out)) hb); clear HB; have HB := n0_; clear n0_; (try clear hb); (try clear hb2); (try clear hk); (try clear hi)))
    repeat (go_quiet (first | (go_at_call 29; (with_reducible refine (legatelaw07_works.calls (gw := ?sideG) k  false _ A7.out).mono ?_); (case sideG => exact GW.below HG.out (by repeat (first | (with_reducible first | exact HB.out | apply below_alloc | apply pw_below_drewN | apply below_drew1) | exact HB.out))); rintro e w42 ⟨rfl, hb⟩; have n0_ := Aside0.mk (below_step (by repeat (first | (with_reducible first | exact HB.out | apply below_alloc | apply pw_below_drewN | apply below_drew1) | exact HB.out)) hb); clear HB; have HB := n0_; clear n0_; (try clear hb); (try clear hb2); (try clear hk); (try clear hi))); try go_wp2_with (first | (go_at_call 29; (with_reducible refine (legatelaw07_works.calls (gw := ?sideG) k  false _ A7.out).mono ?_); (case sideG => exact GW.below HG.out (by repeat (first | (with_reducible first | exact HB.out | apply below_alloc | apply pw_below_drewN | apply below_drew1) | exact HB.out))); rintro e w42 ⟨rfl, hb⟩; have n0_ := Aside0.mk (below_step (by repeat (first | (with_reducible first | exact HB.out | apply below_alloc | apply pw_below_drewN | apply below_drew1) | exact HB.out)) hb); clear HB; have HB := n0_; clear n0_; (try clear hb); (try clear hb2); (try clear hk); (try clear hi))))
    go_ret
    exact ⟨by first | rfl | (simp [errW_none, errW_some] <;> rfl) | (simp [*, errW_none, errW_some] <;> rfl), by repeat (first | (with_reducible first | exact HB.out | apply below_alloc | apply pw_below_drewN | apply below_drew1) | exact HB.out)⟩

/-- THE ONE PURE STATEMENT of legatelaw07_SealNonce: yours. -/
def legatelaw07_SealNonce.Pure : Prop := ∀ (a0 : ByteArray) (a1 : Int) (a2 : ByteArray) (a3 : ByteArray) (a4 : ByteArray) (a5 : ByteArray), a0.size ≤ 140737488351232 → (Lit.int .i64 a1).wf = true → a2.size ≤ 140737488351232 → a3.size ≤ 140737488351232 → a4.size ≤ 140737488351232 → a5.size ≤ 140737488351232 → ∃ k, legatelaw07_SealNonce.f k a0 a1 a2 a3 a4 a5 = some true
theorem legatelaw07_SealNonce.walk (P : legatelaw07_SealNonce.Pure) (a0 : ByteArray) (a1 : Int) (a2 : ByteArray) (a3 : ByteArray) (a4 : ByteArray) (a5 : ByteArray) (w : World) (w0 : a0.size ≤ 140737488351232) (w1 : (Lit.int .i64 a1).wf = true) (w2 : a2.size ≤ 140737488351232) (w3 : a3.size ≤ 140737488351232) (w4 : a4.size ≤ 140737488351232) (w5 : a5.size ≤ 140737488351232) {gw : GW w} :
    Calls Tryd.prog 9 #[.string a0, .int .i64 a1, .string a2, .string a3, .string a4, .string a5] w fun e w' => e = .returned (.bool true) ∧ Below w.heap.size w w' := by
  obtain ⟨k, h⟩ := P a0 a1 a2 a3 a4 a5 w0 w1 w2 w3 w4 w5
  refine (legatelaw07_SealNonce.calls (gw := gw) k a0 a1 a2 a3 a4 a5 true w h).mono ?_
  rintro e w' ⟨rfl, hd⟩
  exact ⟨rfl, hd⟩


/-! ### legatelaw03_works: function 34 -/
/-! ### legateref03_New: function 35 -/
/-! ### legateref03_Tables_Sum: function 69 -/
end Go.Proofs.YtkgijkfcmbpgpaaDoor.PAll
end

section
namespace Go.Proofs.YtkgijkfcmbpgpaaDoor.Giv
open Go.RowKit Go.Proofs.YtkgijkfcmbpgpaaDoorW.PrintWords Go.Proofs.YtkgijkfcmbpgpaaDoorW.PrintLast Go.Proofs.YtkgijkfcmbpgpaaDoorW.PrintMore Go.Proofs.YtkgijkfcmbpgpaaDoor.PSub

theorem w64 {x : Int} (h0 : 0 ≤ x) (h1 : x < 9223372036854775808) : wrap64 x = x := by unfold wrap64; omega
end Go.Proofs.YtkgijkfcmbpgpaaDoor.Giv
namespace Go.Proofs.YtkgijkfcmbpgpaaDoor.Giv
open Go.RowKit Go.Proofs.YtkgijkfcmbpgpaaDoorW.PrintWords Go.Proofs.YtkgijkfcmbpgpaaDoorW.PrintLast Go.Proofs.YtkgijkfcmbpgpaaDoorW.PrintMore Go.Proofs.YtkgijkfcmbpgpaaDoor.PSub Go.Proofs.YtkgijkfcmbpgpaaDoor.PAll

end Go.Proofs.YtkgijkfcmbpgpaaDoor.Giv
namespace Go.Proofs.YtkgijkfcmbpgpaaDoor.Giv
open Go.RowKit Go.Proofs.YtkgijkfcmbpgpaaDoorW.PrintWords Go.Proofs.YtkgijkfcmbpgpaaDoorW.PrintLast Go.Proofs.YtkgijkfcmbpgpaaDoorW.PrintMore Go.Proofs.YtkgijkfcmbpgpaaDoor.PSub Go.Proofs.YtkgijkfcmbpgpaaDoor.PAll
set_option linter.unusedVariables false
set_option linter.unusedSimpArgs false

end Go.Proofs.YtkgijkfcmbpgpaaDoor.Giv
namespace Go.Proofs.YtkgijkfcmbpgpaaDoor.Giv
open Go.RowKit Go.Proofs.YtkgijkfcmbpgpaaDoorW.PrintWords Go.Proofs.YtkgijkfcmbpgpaaDoorW.PrintLast Go.Proofs.YtkgijkfcmbpgpaaDoorW.PrintMore Go.Proofs.YtkgijkfcmbpgpaaDoor.PSub Go.Proofs.YtkgijkfcmbpgpaaDoor.PAll
set_option linter.unusedVariables false
set_option linter.unusedSimpArgs false

end Go.Proofs.YtkgijkfcmbpgpaaDoor.Giv
namespace Go.Proofs.YtkgijkfcmbpgpaaDoor.Giv
open Go.RowKit Go.Proofs.YtkgijkfcmbpgpaaDoorW.PrintWords Go.Proofs.YtkgijkfcmbpgpaaDoorW.PrintLast Go.Proofs.YtkgijkfcmbpgpaaDoorW.PrintMore Go.Proofs.YtkgijkfcmbpgpaaDoor.PSub Go.Proofs.YtkgijkfcmbpgpaaDoor.PAll
set_option linter.unusedVariables false
set_option linter.unusedSimpArgs false

end Go.Proofs.YtkgijkfcmbpgpaaDoor.Giv
namespace Go.Proofs.YtkgijkfcmbpgpaaDoor.Giv
open Go.RowKit Go.Proofs.YtkgijkfcmbpgpaaDoorW.PrintWords Go.Proofs.YtkgijkfcmbpgpaaDoorW.PrintLast Go.Proofs.YtkgijkfcmbpgpaaDoorW.PrintMore Go.Proofs.YtkgijkfcmbpgpaaDoor.PSub Go.Proofs.YtkgijkfcmbpgpaaDoor.PAll
set_option linter.unusedVariables false
set_option linter.unusedSimpArgs false

end Go.Proofs.YtkgijkfcmbpgpaaDoor.Giv
end

section
namespace Go.Proofs.YtkgijkfcmbpgpaaDoor.Giv
open Go.RowKit Go.Proofs.YtkgijkfcmbpgpaaDoorW.PrintWords Go.Proofs.YtkgijkfcmbpgpaaDoorW.PrintLast Go.Proofs.YtkgijkfcmbpgpaaDoorW.PrintMore Go.Proofs.YtkgijkfcmbpgpaaDoor.PSub Go.Proofs.YtkgijkfcmbpgpaaDoor.PAll
set_option linter.unusedVariables false
set_option linter.unusedSimpArgs false

theorem str_bytesOf (s : ByteArray) : strOfNums (bytesOf s) = s := by
  apply ByteArray.ext
  show ((bytesOf s).map fun n => UInt8.ofNat n.toNat).toArray = s.data
  simp [bytesOf, Function.comp_def]
/-- The text out of a label, a number and a name. -/
def textB (l : ByteArray) (n : Int) (nm : ByteArray) : ByteArray := ((l ++ (⟨#[0]⟩ : ByteArray)) ++ strOfNums (num8 n 8)) ++ nm
theorem num8_size (n : Int) : (strOfNums (num8 n 8)).size = 8 := by rw [size_strOfNums, num8_len]
theorem textB_size (l : ByteArray) (n : Int) (nm : ByteArray) : (textB l n nm).size = l.size + 9 + nm.size := by
  unfold textB
  rw [ByteArray.size_append, ByteArray.size_append, ByteArray.size_append, num8_size]
  show l.size + 1 + 8 + nm.size = _
  omega
theorem text_some (l : ByteArray) (n : Int) (nm : ByteArray) (hl : l.size ≤ 100000000) (hn : nm.size ≤ 140737488355328) : derive_text.f l nm [n] = some (textB l n nm) := by
  unfold derive_text.f
  rw [if_pos ⟨hl, hn, by simp⟩]
  unfold textB headL
  rw [str_append, str_append, str_bytesOf]
  have e : numsL [n] [n].length = num8 n 8 := by simp [numsL]
  rw [e]
  rfl
def noB : ByteArray := ⟨#[]⟩
/-- A key for one use. -/
def dkB (base : ByteArray) (use : Int) (label : ByteArray) : ByteArray := macB base (textB label use noB)
theorem dkB_size (base : ByteArray) (use : Int) (label : ByteArray) (hl : label.size ≤ 10000000) : (dkB base use label).size = 32 := by
  unfold dkB
  exact macB_size _ _ (by rw [textB_size]; show label.size + 9 + 0 ≤ _; omega)
theorem dkey_some (base : ByteArray) (use : Int) (label : ByteArray) (hb : base.size ≤ 100000000) (hl : label.size ≤ 10000000) : derive_Key.f base use label = some (dkB base use label) := by
  unfold derive_Key.f
  have e := text_some label use noB (by omega) (by show 0 ≤ _; omega)
  rw [show (⟨#[]⟩ : ByteArray) = noB from rfl, e]
  simp only [Option.bind_some]
  rw [mac_some base _ hb (by rw [textB_size]; show label.size + 9 + 0 ≤ _; omega)]
  rfl
def cipL : ByteArray := ⟨#[99, 105, 112, 104, 101, 114]⟩
def sumL : ByteArray := ⟨#[115, 117, 109]⟩
theorem dsum_some (base : ByteArray) (use : Int) (hb : base.size ≤ 100000000) : derive_Sum.f base use = some (dkB base use sumL) := by
  unfold derive_Sum.f
  rw [show (⟨#[115, 117, 109]⟩ : ByteArray) = sumL from rfl, dkey_some base use sumL hb (by show 3 ≤ _; omega)]
  rfl
def ckB (base : ByteArray) (use : Int) : ByteArray := (dkB base use cipL).extract 0 16
theorem ckB_size (base : ByteArray) (use : Int) : (ckB base use).size = 16 := by
  unfold ckB
  have h := dkB_size base use cipL (by show 6 ≤ _; omega)
  simp [h]
theorem dcip_some (base : ByteArray) (use : Int) (hb : base.size ≤ 100000000) : derive_Cipher.f base use = some (ckB base use) := by
  unfold derive_Cipher.f
  have h := dkB_size base use cipL (by show 6 ≤ _; omega)
  rw [show (⟨#[99, 105, 112, 104, 101, 114]⟩ : ByteArray) = cipL from rfl, dkey_some base use cipL hb (by show 6 ≤ _; omega)]
  simp only [Option.bind_some]
  rw [if_pos (by omega), if_pos (by omega)]
  rfl
end Go.Proofs.YtkgijkfcmbpgpaaDoor.Giv
end

section
namespace Go.Proofs.YtkgijkfcmbpgpaaDoor.Giv
def Lin (f : Nat → Nat) : Prop := ∀ x y, f (x ^^^ y) = f x ^^^ f y
theorem xor4 (a b c d : Nat) : (a ^^^ b) ^^^ (c ^^^ d) = (a ^^^ c) ^^^ (b ^^^ d) := by
  rw [Nat.xor_assoc, Nat.xor_assoc]; congr 1; rw [← Nat.xor_assoc, ← Nat.xor_assoc, Nat.xor_comm b c]
theorem Lin.zero {f : Nat → Nat} (h : Lin f) : f 0 = 0 := by
  have := h 0 0
  simpa using this
theorem Lin.xor {f g : Nat → Nat} (hf : Lin f) (hg : Lin g) : Lin fun x => f x ^^^ g x := fun x y => by
  show f (x ^^^ y) ^^^ g (x ^^^ y) = _; rw [hf, hg, xor4]
theorem Lin.shl (k : Nat) : Lin fun x => x <<< k := fun _ _ => Nat.shiftLeft_xor_distrib
theorem Lin.shr (k : Nat) : Lin fun x => x >>> k := fun _ _ => Nat.shiftRight_xor_distrib
theorem Lin.id : Lin fun x => x := fun _ _ => rfl
end Go.Proofs.YtkgijkfcmbpgpaaDoor.Giv
end

section
namespace Go.Proofs.YtkgijkfcmbpgpaaDoor.Giv
open Go.RowKit Go.Proofs.YtkgijkfcmbpgpaaDoorW.PrintWords Go.Proofs.YtkgijkfcmbpgpaaDoorW.PrintLast Go.Proofs.YtkgijkfcmbpgpaaDoorW.PrintMore Go.Proofs.YtkgijkfcmbpgpaaDoor.PAll
set_option linter.unusedVariables false
set_option linter.unusedSimpArgs false

theorem nat_of_u8 {x : Int} (h : U8 x) : ∃ n : Nat, n < 256 ∧ x = (n : Int) := ⟨x.toNat, by unfold U8 at h; omega, by unfold U8 at h; omega⟩
theorem xor_lt {a b : Nat} (ha : a < 256) (hb : b < 256) : a ^^^ b < 256 := Nat.xor_lt_two_pow (n := 8) ha hb
end Go.Proofs.YtkgijkfcmbpgpaaDoor.Giv
end

section
namespace Go.Proofs.YtkgijkfcmbpgpaaDoor.PAll
open Go.RowKit Go.Proofs.YtkgijkfcmbpgpaaDoorW.PrintWords Go.Proofs.YtkgijkfcmbpgpaaDoorW.PrintLast Go.Proofs.YtkgijkfcmbpgpaaDoorW.PrintMore
attribute [local go_sem] max2_int min2_int max_two min_two max_three min_three max_four min_four   -- for this text's walks alone
set_option linter.unusedVariables false
set_option linter.unusedSimpArgs false

/-! ### legateref04_Encrypt: function 91 -/
def legateref04_Encrypt.T8 : Bool × List (List Nat × List Nat) := (true, [([], []), ([], []), ([], []), ([], []), ([2, 3], [2, 3]), ([], []), ([], []), ([5, 6], [5, 6]), ([4, 7], [4, 7]), ([0, 1, 0, 1, 2, 3, 4, 5, 6, 7, 8], [0, 1]), ([9, 8, 0, 1, 2, 3, 4, 5, 6, 7, 8], [8, 9])])
def legateref04_Encrypt.B8 : List Nat := [0, 0, 0, 0, 12, 0, 0, 96, 252, 511, 1023]
theorem legateref04_Encrypt.tab8 : rtab .any (opsOf Tryd.f91 8) = legateref04_Encrypt.T8 := by kernel_rfl
theorem legateref04_Encrypt.bits8 : waitsOk legateref04_Encrypt.T8.2 legateref04_Encrypt.B8 = true := by kernel_rfl
end Go.Proofs.YtkgijkfcmbpgpaaDoor.PAll
end

section
namespace Go.Proofs.YtkgijkfcmbpgpaaDoor.Giv
open Go.RowKit Go.Proofs.YtkgijkfcmbpgpaaDoorW.PrintWords Go.Proofs.YtkgijkfcmbpgpaaDoorW.PrintLast Go.Proofs.YtkgijkfcmbpgpaaDoorW.PrintMore Go.Proofs.YtkgijkfcmbpgpaaDoor.PAll
set_option linter.unusedVariables false
set_option linter.unusedSimpArgs false

/-- A row of which the first n are new. -/
def bl (f : Nat → Int) (s : List Int) (n : Nat) : List Int := (List.range s.length).map fun i => if i < n then f i else s.getD i 0
theorem bl_len (f : Nat → Int) (s : List Int) (n : Nat) : (bl f s n).length = s.length := by simp [bl]
theorem bl_at (f : Nat → Int) (s : List Int) (n i : Nat) (hi : i < s.length) : (bl f s n).getD i 0 = if i < n then f i else s.getD i 0 := by
  simp [bl, List.getD_eq_getElem?_getD, hi]
theorem list_ext {a b : List Int} (hl : a.length = b.length) (h : ∀ i, i < a.length → a.getD i 0 = b.getD i 0) : a = b := by
  apply List.ext_getElem hl
  intro i h1 h2
  have := h i h1
  simpa [List.getD_eq_getElem?_getD, h1, h2] using this
theorem set_at (L : List Int) (i j : Nat) (x : Int) (hj : j < L.length) : (L.set i x).getD j 0 = if i = j then x else L.getD j 0 := by
  by_cases h : i = j
  · subst h; simp [List.getD_eq_getElem?_getD, hj]
  · simp [List.getD_eq_getElem?_getD, h]
theorem bl_zero (f : Nat → Int) (s : List Int) : bl f s 0 = s := by
  refine list_ext (bl_len _ _ _) fun i hi => ?_
  rw [bl_len] at hi
  rw [bl_at f s 0 i hi, if_neg (by omega)]
theorem bl_set (f : Nat → Int) (s : List Int) (n : Nat) : (bl f s n).set n (f n) = bl f s (n + 1) := by
  refine list_ext (by rw [List.length_set, bl_len, bl_len]) fun i hi => ?_
  rw [List.length_set, bl_len] at hi
  rw [set_at _ _ _ _ (by rw [bl_len]; exact hi), bl_at f s n i hi, bl_at f s (n + 1) i hi]
  by_cases h : n = i
  · subst h; rw [if_pos rfl, if_pos (by omega)]
  · rw [if_neg h]
    by_cases h2 : i < n
    · rw [if_pos h2, if_pos (by omega)]
    · rw [if_neg h2, if_neg (by omega)]
/-! The program's steps, as_ rows. -/
/-! Sums and products of the reference. -/
/-! The reference's rounds. -/
/-- What a round's first step makes. -/
def aF (T S : List Int) (i : Nat) : Int := T.getD (S.getD (shJ i) 0).toNat 0
end Go.Proofs.YtkgijkfcmbpgpaaDoor.Giv
end
