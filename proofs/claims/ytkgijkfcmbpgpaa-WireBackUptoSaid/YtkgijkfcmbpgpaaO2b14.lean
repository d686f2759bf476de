/- Joined by wip/pack.py out of: PWirx9; what nothing here names is left out. -/
import Derived.ArgAppend
import Derived.Below
import Derived.BigQuiet
import Derived.Deep.AppendLies
import Derived.Deep.CutBlock
import Derived.Deep.DeepCutAuto
import Derived.Deep.Draws
import Derived.Deep.LoopGhost
import Derived.Deep.OwnRows
import Derived.Deep.QuietTactic
import Derived.Deep.RegionHeld3
import Derived.KernelRfl
import Derived.Laws.BitsLemmas
import Derived.Laws.BytesArg
import Derived.Laws.IdiomCopy
import Derived.Laws.MakeOwn
import Derived.Laws.OwnMore
import Derived.Laws.Rows
import Derived.Laws.Slices
import Derived.Laws.StructEq
import Derived.Lib.AppendStr
import Derived.Lib.ConvBytes
import Derived.Maps.AppendAt
import Derived.OrdersHeld
import Derived.OwnWalk
import Derived.RowKit
import Derived.RowKit3
import Derived.Shelf.Strings.Builder1
import Derived.Shelf.Strings.BuilderF
import Derived.Shelf.Strings.BuilderK
import Derived.Tactics
import Derived.WalkKit
import Derived.WideLaws
import Derived.Test.YtkgijkfcmbpgpaaO2b2
import Derived.Test.YtkgijkfcmbpgpaaO2b3
import Derived.Test.YtkgijkfcmbpgpaaO2b5
import Derived.Test.YtkgijkfcmbpgpaaO2b8
import Derived.Test.YtkgijkfcmbpgpaaO2b9
import Derived.Test.YtkgijkfcmbpgpaaProg
section
namespace Go.Proofs.Ytkgijkfcmbpgpaa.PWir
open Go.RowKit Go.Proofs.YtkgijkfcmbpgpaaW.PrintWords Go.Proofs.YtkgijkfcmbpgpaaW.PrintLast Go.Proofs.YtkgijkfcmbpgpaaW.PrintMore
open Go.Proofs.Ytkgijkfcmbpgpaa.Giv
attribute [local go_sem] max2_int min2_int max_two min_two max_three min_three max_four min_four   -- for this text's walks alone
set_option linter.unusedVariables false
set_option linter.unusedSimpArgs false

/-! ### legatelaw01_WireBack: function 14 -/
mutual
def legatelaw01_WireBack.j0 : Nat → ByteArray → Int → Bool → Bool → Bool → Int → ByteArray → List (S44) → Option (Bool)
  | 0, _, _, _, _, _, _, _, _ => none
  | k + 1, x1, x2, x7, x28, x234000, x234001, x234002, x234003 => if x28 = true then (some x7) else ((wire_Put.f x234000 x234001 x234002 x234003).bind fun bt236 => (if bt236.2 = 0 then ((wire_Get.f k bt236.1).bind fun bt239 => (if bt236.1.size + x1.size ≤ 9223372036854775807 then ((wire_First.f k (bt236.1 ++ x1)).bind fun bt247 => (if bt239.2.2.2.2 = 0 then (if bt247.2.2.2.2.2 = 0 then (if bt247.2.2.2.2.1 = (bt236.1.size : Int) then ((wire_Same.f x234000 x234001 x234002 x234003 bt239.1 bt239.2.1 bt239.2.2.1 bt239.2.2.2.1).bind fun t256 => (if t256 = true then ((wire_Same.f x234000 x234001 x234002 x234003 bt247.1 bt247.2.1 bt247.2.2.1 bt247.2.2.2.1).bind fun t257 => (legatelaw01_WireBack.j1 k x2 x7 bt236.1 (!t257))) else (legatelaw01_WireBack.j1 k x2 x7 bt236.1 true))) else (legatelaw01_WireBack.j1 k x2 x7 bt236.1 true)) else (legatelaw01_WireBack.j1 k x2 x7 bt236.1 true)) else (legatelaw01_WireBack.j1 k x2 x7 bt236.1 true))) else (none))) else (if x7 = true then (if bt236.1.toList = ([] : List UInt8) then ((wire_Valid.f k x234000 x234001 x234002 x234003).bind fun t238 => (some (!t238))) else (some false)) else (some false))))
def legatelaw01_WireBack.j1 : Nat → Int → Bool → ByteArray → Bool → Option (Bool)
  | 0, _, _, _, _ => none
  | k + 1, x2, x7, x9, x83 => if x83 = true then (some false) else (if x2 < 0 then (some x7) else (if x2 ≥ (x9.size : Int) then (some x7) else (if 0 ≤ x2 then (if x2 ≤ (x9.size : Int) then ((wire_Get.f k (x9.extract 0 (x2 : Int).toNat)).bind fun bt258 => (if x7 = true then (some (bt258.2.2.2.2 == 10)) else (some false))) else (none)) else (none))))
end
def legatelaw01_WireBack.f (k : Nat) (a0_0 : Bool) (a0_1 : Int) (a0_2 : ByteArray) (l0_3 : List (S44)) (a1 : ByteArray) (a2 : Int) : Option (Bool) := (legatelaw01_works.f k).bind fun t234 => (if t234 = true then ((legateref01_Large.f k a0_0 a0_1 a0_2 l0_3 2000).bind fun t235 => (if t235 = true then (legatelaw01_WireBack.j0 k a1 a2 t234 true a0_0 a0_1 a0_2 l0_3) else (legatelaw01_WireBack.j0 k a1 a2 t234 (decide ((a1.size : Int) > 2000)) a0_0 a0_1 a0_2 l0_3))) else (some false))
set_option maxHeartbeats 8000000 in
set_option maxRecDepth 100000 in
theorem legatelaw01_WireBack.calls (k : Nat) (a0_0 : Bool) (a0_1 : Int) (a0_2 : ByteArray) (A0_3 : Option Addr) (c0_3 : Nat) (l0_3 : List (S44)) (a1 : ByteArray) (a2 : Int) (r : Bool) (w : World) (hr0_3 : Kd.C k44 w A0_3 l0_3.length l0_3) (hc0_3 : l0_3.length ≤ c0_3) (h : legatelaw01_WireBack.f k a0_0 a0_1 a0_2 l0_3 a1 a2 = some r) :
    Calls Try.prog 14 #[.agg #[.bool a0_0, .int .i64 a0_1, .string a0_2, .slice A0_3 l0_3.length c0_3], .string a1, .int .i64 a2] w fun e w' => e = .returned (.bool r) ∧ Below w.heap.size w w' := by
  have hu44 := Try.underlying44
  have HR0_3 := Aside0.mk hr0_3
  have HC0_3 := Aside0.mk hc0_3
  clear hr0_3 hc0_3
  have HB := Aside0.mk (Below.refl w.heap.size w)
  have H : ((legatelaw01_works.f k).bind fun t234 => (if t234 = true then ((legateref01_Large.f k a0_0 a0_1 a0_2 l0_3 2000).bind fun t235 => (if t235 = true then (legatelaw01_WireBack.j0 k a1 a2 t234 true a0_0 a0_1 a0_2 l0_3) else (legatelaw01_WireBack.j0 k a1 a2 t234 (decide ((a1.size : Int) > 2000)) a0_0 a0_1 a0_2 l0_3))) else (some false))) = some r := h
  clear h
  replace H := Option.bind_eq_some_iff.mp H
  obtain ⟨t234, A40, H⟩ := H
  replace H : (if t234 = true then ((legateref01_Large.f k a0_0 a0_1 a0_2 l0_3 2000).bind fun t235 => (if t235 = true then (legatelaw01_WireBack.j0 k a1 a2 t234 true a0_0 a0_1 a0_2 l0_3) else (legatelaw01_WireBack.j0 k a1 a2 t234 (decide ((a1.size : Int) > 2000)) a0_0 a0_1 a0_2 l0_3))) else (some false)) = some r := H
  have A4 := Aside0.mk A40
  clear A40
  by_cases c5 : t234 = true
  · subst c5
    have H1 : ((legateref01_Large.f k a0_0 a0_1 a0_2 l0_3 2000).bind fun t235 => (if t235 = true then (legatelaw01_WireBack.j0 k a1 a2 true true a0_0 a0_1 a0_2 l0_3) else (legatelaw01_WireBack.j0 k a1 a2 true (decide ((a1.size : Int) > 2000)) a0_0 a0_1 a0_2 l0_3))) = some r := by rw [if_pos rfl] at H; exact H
    clear H
    have H := H1
    clear H1
    replace H := Option.bind_eq_some_iff.mp H
    obtain ⟨t235, A60, H⟩ := H
    replace H : (if t235 = true then (legatelaw01_WireBack.j0 k a1 a2 true true a0_0 a0_1 a0_2 l0_3) else (legatelaw01_WireBack.j0 k a1 a2 true (decide ((a1.size : Int) > 2000)) a0_0 a0_1 a0_2 l0_3)) = some r := H
    have A6 := Aside0.mk A60
    clear A60
    have HC7 := Aside0.mk H
    clear H
    go_enter Try.func14, Try.ntmps14
    go_upto_region 5 with (first | ((with_reducible refine gate_dst (N := 3) rfl ?_); (try (refine gate_guard (by rfl) ?_; dsimp only)); refine box_event ?hg (N := 3) ?hd (cs := #[.bool a0_0, .int .i64 a0_1, .string a0_2, .slice A0_3 l0_3.length c0_3]) (t := 44) ?hr ?_; (case hd => rfl); (case hg => rfl); (case hr => first | (go_simp; done) | (go_simp; rfl)); intro gb233 hg w8 hbox hb; have n0_ := Aside0.mk (below_step (by repeat (first | (with_reducible first | exact HB.out | apply below_alloc | apply pw_below_drewN | apply below_drew1) | exact HB.out)) hb); have n1_ := Aside0.mk (hbox); have n2_ := Aside0.mk ((by rw [hg]; exact (below_size (by repeat (first | (with_reducible first | exact HB.out | apply below_alloc | apply pw_below_drewN | apply below_drew1) | exact HB.out))) : w.heap.size ≤ gb233)); have n3_ := Aside0.mk ((by rw [hg]; exact (below_size (by repeat (first | (with_reducible first | exact HB.out | apply below_alloc | apply pw_below_drewN | apply below_drew1) | exact HB.out))) : w.heap.size ≤ gb233)); clear HB; have HB := n0_; have BK233 := n1_; have GW233 := n2_; have GE233 := n3_; clear n0_ n1_ n2_ n3_; clear hb hbox hg) | ((with_reducible refine gate_callee (f := 34) rfl ?_); refine goesL_ (some 18) rfl rfl Try.func34 (by kernel_rfl) rfl #[] rfl (by (try simp only [List.map_toArray, List.map_cons, List.map_nil]); first | done | rfl | (simp only [List.length_drop, List.length_take]; rfl)) ?_; (with_reducible refine (legatelaw01_works.calls k  true _ A4.out).mono ?_); rintro e w9 ⟨rfl, hb⟩; refine ⟨_, rfl, ?_⟩; have n0_ := Aside0.mk (blk_below (g := gb233) (o := .cells #[.bool a0_0, .int .i64 a0_1, .string a0_2, .slice A0_3 l0_3.length c0_3] 44 (0, 0)) (by (with_reducible repeat (first | refine blk_drewN ?_ _ | refine blk_drew ?_ | refine blk_alloc ?_ _)); exact BK233.out) hb); have n1_ := Aside0.mk (below_step (by repeat (first | (with_reducible first | exact HB.out | apply below_alloc | apply pw_below_drewN | apply below_drew1 | refine below_set ?_ GE233.out) | exact HB.out)) hb); clear BK233; clear HB; have BK233 := n0_; have HB := n1_; clear n0_ n1_; (try clear hb); (try clear hb2); (try clear hk); (try clear hi); have hcz10_0 : w9.cell? ⟨gb233, 0, none⟩ = some (.bool a0_0) := (blk_cell BK233.out 0).trans rfl; have hcz10_1 : w9.cell? ⟨gb233, 1, none⟩ = some (.int .i64 a0_1) := (blk_cell BK233.out 1).trans rfl; have hcz10_2 : w9.cell? ⟨gb233, 2, none⟩ = some (.string a0_2) := (blk_cell BK233.out 2).trans rfl; have hcz10_3 : w9.cell? ⟨gb233, 3, none⟩ = some (.slice A0_3 l0_3.length c0_3) := (blk_cell BK233.out 3).trans rfl; have hfz10_0 := blk_frozen BK233.out 0; have hfz10_1 := blk_frozen BK233.out 1; have hfz10_2 := blk_frozen BK233.out 2; have hfz10_3 := blk_frozen BK233.out 3) | ((with_reducible refine gate_callee (f := 35) rfl ?_); refine goesL_ (some 22) rfl rfl Try.func35 (by kernel_rfl) rfl #[.agg #[.bool a0_0, .int .i64 a0_1, .string a0_2, .slice A0_3 l0_3.length c0_3], .int .i64 2000] rfl (by (try simp only [List.map_toArray, List.map_cons, List.map_nil]); first | done | rfl | (simp only [List.length_drop, List.length_take]; rfl)) ?_; (with_reducible refine (legateref01_Large.calls k a0_0 a0_1 a0_2 _ _ l0_3 2000 t235 _ ?side1 ?side2 A6.out).mono ?_); (case side1 => repeat (first | exact (Kd.C_below HR0_3.out HB.out) | (with_reducible refine Kd.C_alloc ?_ _) | (with_reducible refine Kd.C_drewN ?_ _) | (with_reducible refine Kd.C_drew ?_))); (case side2 => exact HC0_3.out); rintro e w11 ⟨rfl, hb⟩; refine ⟨_, rfl, ?_⟩; have n0_ := Aside0.mk (blk_below (g := gb233) (o := .cells #[.bool a0_0, .int .i64 a0_1, .string a0_2, .slice A0_3 l0_3.length c0_3] 44 (0, 0)) (by (with_reducible repeat (first | refine blk_drewN ?_ _ | refine blk_drew ?_ | refine blk_alloc ?_ _)); exact BK233.out) hb); have n1_ := Aside0.mk (below_step (by repeat (first | (with_reducible first | exact HB.out | apply below_alloc | apply pw_below_drewN | apply below_drew1 | refine below_set ?_ GE233.out) | exact HB.out)) hb); clear BK233; clear HB; have BK233 := n0_; have HB := n1_; clear n0_ n1_; (try clear hb); (try clear hb2); (try clear hk); (try clear hi)))
    (try simp only [Act.put, List.setIfInBounds_toArray, List.set_cons_zero, List.set_cons_succ])
    go_cut [28] (fun v28 wc => ∃ (kq : Nat) (x28_6 : Bool), v28 = .bool x28_6 ∧ Aside0 (legatelaw01_WireBack.j0 kq a1 a2 true x28_6 a0_0 a0_1 a0_2 l0_3 = some r) ∧ Aside0 (kq ≤ k) ∧ Aside0 (wc.heap[gb233]? = some (.cells #[.bool a0_0, .int .i64 a0_1, .string a0_2, (.slice A0_3 l0_3.length c0_3)] 44 (0, 0))) ∧ Aside0 (Below w.heap.size w wc))
    case first =>
      have H := HC7.out
      clear HC7
      by_cases c12 : t235 = true
      · subst c12
        have H1 : (legatelaw01_WireBack.j0 k a1 a2 true true a0_0 a0_1 a0_2 l0_3) = some r := by rw [if_pos rfl] at H; exact H
        clear H
        have H := H1
        clear H1
        have H' := Aside0.mk H
        clear H
        go_wp2
        go_meet
        case rel => exact ⟨_, (true), (by first | rfl | (simp; done) | (simp [*]; done)), H', ⟨by first | omega | exact Nat.le_refl _⟩, ⟨by (with_reducible repeat (first | refine blk_drewN ?_ _ | refine blk_drew ?_ | refine blk_alloc ?_ _)); exact BK233.out⟩, ⟨by repeat (first | (with_reducible first | exact HB.out | apply below_alloc | apply pw_below_drewN | apply below_drew1 | refine below_set ?_ GE233.out) | exact HB.out)⟩⟩
      · replace c12 := Bool.eq_false_iff.mpr c12
        subst c12
        have H1 : (legatelaw01_WireBack.j0 k a1 a2 true (decide ((a1.size : Int) > 2000)) a0_0 a0_1 a0_2 l0_3) = some r := by rw [if_neg (show ¬ (false = true) by decide)] at H; exact H
        clear H
        have H := H1
        clear H1
        have H' := Aside0.mk H
        clear H
        go_wp2
        go_meet
        case rel => exact ⟨_, (decide ((a1.size : Int) > 2000)), (by first | rfl | (simp; done) | (simp [*]; done)), H', ⟨by first | omega | exact Nat.le_refl _⟩, ⟨by (with_reducible repeat (first | refine blk_drewN ?_ _ | refine blk_drew ?_ | refine blk_alloc ?_ _)); exact BK233.out⟩, ⟨by repeat (first | (with_reducible first | exact HB.out | apply below_alloc | apply pw_below_drewN | apply below_drew1 | refine below_set ?_ GE233.out) | exact HB.out)⟩⟩
    case rest =>
      clear HC7
      try clear c1
      try clear p2
      try clear c3
      try clear c5
      try clear c12
      try clear hcz10_0
      try clear hcz10_1
      try clear hcz10_2
      try clear hcz10_3
      try clear hfz10_0
      try clear hfz10_1
      try clear hfz10_2
      try clear hfz10_3
      obtain ⟨kq, x28_6, rfl, HA, HJ6, BK233, HB⟩ := hcut
      cases kq with
      | zero => exact absurd HA.out (by simp [legatelaw01_WireBack.j0])
      | succ kj6 =>
        have H := HA.out
        clear HA
        simp only [legatelaw01_WireBack.j0] at H
        by_cases c13 : x28_6 = true
        · subst c13
          have H1 : (some true) = some r := by rw [if_pos rfl] at H; exact H
          clear H
          have H := H1
          clear H1
          obtain rfl := Option.some.inj H
          go_wp2
          go_ret
          exact ⟨by first | rfl | (simp [errW_none, errW_some] <;> rfl) | (simp [*, errW_none, errW_some] <;> rfl), by repeat (first | (with_reducible first | exact HB.out | apply below_alloc | apply pw_below_drewN | apply below_drew1 | refine below_set ?_ GE233.out) | exact HB.out)⟩
        · replace c13 := Bool.eq_false_iff.mpr c13
          subst c13
          have H1 : ((wire_Put.f a0_0 a0_1 a0_2 l0_3).bind fun bt236 => (if bt236.2 = 0 then ((wire_Get.f kj6 bt236.1).bind fun bt239 => (if bt236.1.size + a1.size ≤ 9223372036854775807 then ((wire_First.f kj6 (bt236.1 ++ a1)).bind fun bt247 => (if bt239.2.2.2.2 = 0 then (if bt247.2.2.2.2.2 = 0 then (if bt247.2.2.2.2.1 = (bt236.1.size : Int) then ((wire_Same.f a0_0 a0_1 a0_2 l0_3 bt239.1 bt239.2.1 bt239.2.2.1 bt239.2.2.2.1).bind fun t256 => (if t256 = true then ((wire_Same.f a0_0 a0_1 a0_2 l0_3 bt247.1 bt247.2.1 bt247.2.2.1 bt247.2.2.2.1).bind fun t257 => (legatelaw01_WireBack.j1 kj6 a2 true bt236.1 (!t257))) else (legatelaw01_WireBack.j1 kj6 a2 true bt236.1 true))) else (legatelaw01_WireBack.j1 kj6 a2 true bt236.1 true)) else (legatelaw01_WireBack.j1 kj6 a2 true bt236.1 true)) else (legatelaw01_WireBack.j1 kj6 a2 true bt236.1 true))) else (none))) else (if true = true then (if bt236.1.toList = ([] : List UInt8) then ((wire_Valid.f kj6 a0_0 a0_1 a0_2 l0_3).bind fun t238 => (some (!t238))) else (some false)) else (some false)))) = some r := by rw [if_neg (show ¬ (false = true) by decide)] at H; exact H
          clear H
          have H := H1
          clear H1
          replace H := Option.bind_eq_some_iff.mp H
          obtain ⟨⟨t236, t237⟩, A140, H⟩ := H
          replace H : (if t237 = 0 then ((wire_Get.f kj6 t236).bind fun bt239 => (if t236.size + a1.size ≤ 9223372036854775807 then ((wire_First.f kj6 (t236 ++ a1)).bind fun bt247 => (if bt239.2.2.2.2 = 0 then (if bt247.2.2.2.2.2 = 0 then (if bt247.2.2.2.2.1 = (t236.size : Int) then ((wire_Same.f a0_0 a0_1 a0_2 l0_3 bt239.1 bt239.2.1 bt239.2.2.1 bt239.2.2.2.1).bind fun t256 => (if t256 = true then ((wire_Same.f a0_0 a0_1 a0_2 l0_3 bt247.1 bt247.2.1 bt247.2.2.1 bt247.2.2.2.1).bind fun t257 => (legatelaw01_WireBack.j1 kj6 a2 true t236 (!t257))) else (legatelaw01_WireBack.j1 kj6 a2 true t236 true))) else (legatelaw01_WireBack.j1 kj6 a2 true t236 true)) else (legatelaw01_WireBack.j1 kj6 a2 true t236 true)) else (legatelaw01_WireBack.j1 kj6 a2 true t236 true))) else (none))) else (if true = true then (if t236.toList = ([] : List UInt8) then ((wire_Valid.f kj6 a0_0 a0_1 a0_2 l0_3).bind fun t238 => (some (!t238))) else (some false)) else (some false))) = some r := H
          have A14 := Aside0.mk A140
          clear A140
          by_cases c15 : t237 = 0
          · rw [if_pos c15] at H
            have c15b0 : (t237 == 0) = true := beq_iff_eq.mpr c15
            have c15b1 : (t237 != 0) = false := bne_eq_false_iff_eq.mpr c15
            clear c15
            replace H := Option.bind_eq_some_iff.mp H
            obtain ⟨⟨t239, t240, t241, t242, t245⟩, A160, H⟩ := H
            replace H : (if t236.size + a1.size ≤ 9223372036854775807 then ((wire_First.f kj6 (t236 ++ a1)).bind fun bt247 => (if t245 = 0 then (if bt247.2.2.2.2.2 = 0 then (if bt247.2.2.2.2.1 = (t236.size : Int) then ((wire_Same.f a0_0 a0_1 a0_2 l0_3 t239 t240 t241 t242).bind fun t256 => (if t256 = true then ((wire_Same.f a0_0 a0_1 a0_2 l0_3 bt247.1 bt247.2.1 bt247.2.2.1 bt247.2.2.2.1).bind fun t257 => (legatelaw01_WireBack.j1 kj6 a2 true t236 (!t257))) else (legatelaw01_WireBack.j1 kj6 a2 true t236 true))) else (legatelaw01_WireBack.j1 kj6 a2 true t236 true)) else (legatelaw01_WireBack.j1 kj6 a2 true t236 true)) else (legatelaw01_WireBack.j1 kj6 a2 true t236 true))) else (none)) = some r := H
            have A16 := Aside0.mk A160
            clear A160
            by_cases c17 : t236.size + a1.size ≤ 9223372036854775807
            · rw [if_pos c17] at H
              have c17b0 := eq_true c17
              have c17b0z := c17b0
              (try simp only [ByteArray.size_append, Int.natCast_add] at c17b0z)
              have c17b1 : decide (t236.size + a1.size ≤ 9223372036854775807) = true := decide_eq_true c17
              have c17b1z := c17b1
              (try simp only [ByteArray.size_append, Int.natCast_add] at c17b1z)
              try have c17b2 : (9223372036854775807 < t236.size + a1.size) = False := eq_false (Nat.not_lt.2 c17)
              replace H := Option.bind_eq_some_iff.mp H
              obtain ⟨⟨t247, t248, t249, t250, t253, t254⟩, A180, H⟩ := H
              replace H : (if t245 = 0 then (if t254 = 0 then (if t253 = (t236.size : Int) then ((wire_Same.f a0_0 a0_1 a0_2 l0_3 t239 t240 t241 t242).bind fun t256 => (if t256 = true then ((wire_Same.f a0_0 a0_1 a0_2 l0_3 t247 t248 t249 t250).bind fun t257 => (legatelaw01_WireBack.j1 kj6 a2 true t236 (!t257))) else (legatelaw01_WireBack.j1 kj6 a2 true t236 true))) else (legatelaw01_WireBack.j1 kj6 a2 true t236 true)) else (legatelaw01_WireBack.j1 kj6 a2 true t236 true)) else (legatelaw01_WireBack.j1 kj6 a2 true t236 true)) = some r := H
              have A18 := Aside0.mk A180
              clear A180
              have HC19 := Aside0.mk H
              clear H
              have hcz20_0 : wc.cell? ⟨gb233, 0, none⟩ = some (.bool a0_0) := (blk_cell BK233.out 0).trans rfl
              have hcz20_1 : wc.cell? ⟨gb233, 1, none⟩ = some (.int .i64 a0_1) := (blk_cell BK233.out 1).trans rfl
              have hcz20_2 : wc.cell? ⟨gb233, 2, none⟩ = some (.string a0_2) := (blk_cell BK233.out 2).trans rfl
              have hcz20_3 : wc.cell? ⟨gb233, 3, none⟩ = some (.slice A0_3 l0_3.length c0_3) := (blk_cell BK233.out 3).trans rfl
              have hfz20_0 := blk_frozen BK233.out 0
              have hfz20_1 := blk_frozen BK233.out 1
              have hfz20_2 := blk_frozen BK233.out 2
              have hfz20_3 := blk_frozen BK233.out 3
              go_upto_region 12 with (first | ((with_reducible refine gate_callee (f := 36) rfl ?_); refine goesL_ (some 32) rfl rfl Try.func36 (by kernel_rfl) rfl #[.agg #[.bool a0_0, .int .i64 a0_1, .string a0_2, .slice A0_3 l0_3.length c0_3]] rfl (by (try simp only [List.map_toArray, List.map_cons, List.map_nil]); first | done | rfl | (simp only [List.length_drop, List.length_take]; rfl)) ?_; (with_reducible refine (wire_Put.calls a0_0 a0_1 a0_2 _ _ l0_3 t236 t237 _ ?side1 ?side2 A14.out).mono ?_); (case side1 => repeat (first | exact (Kd.C_below HR0_3.out HB.out) | (with_reducible refine Kd.C_alloc ?_ _) | (with_reducible refine Kd.C_drewN ?_ _) | (with_reducible refine Kd.C_drew ?_))); (case side2 => exact HC0_3.out); rintro e w21 ⟨rfl, hb⟩; refine ⟨_, rfl, ?_⟩; have n0_ := Aside0.mk (blk_below (g := gb233) (o := .cells #[.bool a0_0, .int .i64 a0_1, .string a0_2, .slice A0_3 l0_3.length c0_3] 44 (0, 0)) (by (with_reducible repeat (first | refine blk_drewN ?_ _ | refine blk_drew ?_ | refine blk_alloc ?_ _)); exact BK233.out) hb); have n1_ := Aside0.mk (below_step (by repeat (first | (with_reducible first | exact HB.out | apply below_alloc | apply pw_below_drewN | apply below_drew1 | refine below_set ?_ GE233.out) | exact HB.out)) hb); clear BK233; clear HB; have BK233 := n0_; have HB := n1_; clear n0_ n1_; (try clear hb); (try clear hb2); (try clear hk); (try clear hi)) | ((with_reducible refine gate_callee (f := 42) rfl ?_); refine goesL_ (some 49) rfl rfl Try.func42 (by kernel_rfl) rfl #[.string t236] rfl (by (try simp only [List.map_toArray, List.map_cons, List.map_nil]); first | done | rfl | (simp only [List.length_drop, List.length_take]; rfl)) ?_; (with_reducible refine (wire_Get.calls kj6 t236 t239 t240 t241 t242 t245 _ A16.out).mono ?_); rintro e w22 ⟨v243, rfl, ho0, hb⟩; refine ⟨_, rfl, ?_⟩; have n0_ := Aside0.mk (Kd.R_lower (Kd.R_newB ho0 (g := gb233) (o := .cells #[.bool a0_0, .int .i64 a0_1, .string a0_2, .slice A0_3 l0_3.length c0_3] 44 (0, 0)) (by (with_reducible repeat (first | refine blk_drewN ?_ _ | refine blk_drew ?_ | refine blk_alloc ?_ _)); exact BK233.out)) (below_size (by repeat (first | (with_reducible first | exact HB.out | apply below_alloc | apply pw_below_drewN | apply below_drew1 | refine below_set ?_ GE233.out) | exact HB.out)))); have n1_ := Aside0.mk (blk_below (g := gb233) (o := .cells #[.bool a0_0, .int .i64 a0_1, .string a0_2, .slice A0_3 l0_3.length c0_3] 44 (0, 0)) (by (with_reducible repeat (first | refine blk_drewN ?_ _ | refine blk_drew ?_ | refine blk_alloc ?_ _)); exact BK233.out) hb); have n2_ := Aside0.mk (below_step (by repeat (first | (with_reducible first | exact HB.out | apply below_alloc | apply pw_below_drewN | apply below_drew1 | refine below_set ?_ GE233.out) | exact HB.out)) hb); clear BK233; clear HB; have HO244 := n0_; have BK233 := n1_; have HB := n2_; clear n0_ n1_ n2_; (try clear hb); (try clear hb2); (try clear hk); (try clear hi); (try clear ho0)) | ((with_reducible refine gate_dst (N := 11) rfl ?_); (try (refine gate_guard (by rfl) ?_; dsimp only)); refine box_event ?hg (N := 11) ?hd (cs := #[.bool false, .int .i64 0, .string (⟨#[]⟩ : ByteArray), .slice none 0 0]) (t := 44) ?hr ?_; (case hd => rfl); (case hg => rfl); (case hr => first | (go_simp; done) | (go_simp; rfl)); intro gb246 hg w23 hbox hb; have n0_ := Aside0.mk (Kd.R_below (Kd.R_elderB (by (with_reducible repeat (first | apply Kd.R_alloc | apply Kd.R_drewN | apply Kd.R_drew)); exact HO244.out) gb246 (Nat.le_of_eq hg.symm)) hb); have n1_ := Aside0.mk (blk_below (g := gb233) (o := .cells #[.bool a0_0, .int .i64 a0_1, .string a0_2, .slice A0_3 l0_3.length c0_3] 44 (0, 0)) (by (with_reducible repeat (first | refine blk_drewN ?_ _ | refine blk_drew ?_ | refine blk_alloc ?_ _)); exact BK233.out) hb); have n2_ := Aside0.mk (below_step (by repeat (first | (with_reducible first | exact HB.out | apply below_alloc | apply pw_below_drewN | apply below_drew1 | refine below_set ?_ GE233.out) | exact HB.out)) hb); have n3_ := Aside0.mk (hbox); have n4_ := Aside0.mk ((by rw [hg]; exact (below_size (by repeat (first | (with_reducible first | exact HB.out | apply below_alloc | apply pw_below_drewN | apply below_drew1 | refine below_set ?_ GE233.out) | exact HB.out))) : w.heap.size ≤ gb246)); have n5_ := Aside0.mk ((by rw [hg]; exact (below_size (by repeat (first | (with_reducible first | exact HB.out | apply below_alloc | apply pw_below_drewN | apply below_drew1 | refine below_set ?_ GE233.out) | exact HB.out))) : w.heap.size ≤ gb246)); have n6_ := Aside0.mk ((by rw [hg]; exact Nat.ne_of_lt (blk_lt (g := gb233) (o := .cells #[.bool a0_0, .int .i64 a0_1, .string a0_2, .slice A0_3 l0_3.length c0_3] 44 (0, 0)) (by (with_reducible repeat (first | refine blk_drewN ?_ _ | refine blk_drew ?_ | refine blk_alloc ?_ _)); exact BK233.out)) : gb233 ≠ gb246)); have n7_ := Aside0.mk ((by rw [hg]; exact Nat.ne_of_gt (blk_lt (g := gb233) (o := .cells #[.bool a0_0, .int .i64 a0_1, .string a0_2, .slice A0_3 l0_3.length c0_3] 44 (0, 0)) (by (with_reducible repeat (first | refine blk_drewN ?_ _ | refine blk_drew ?_ | refine blk_alloc ?_ _)); exact BK233.out)) : gb246 ≠ gb233)); clear HO244; clear BK233; clear HB; have HO244 := n0_; have BK233 := n1_; have HB := n2_; have BK246 := n3_; have GW246 := n4_; have GE246 := n5_; have NB233_246 := n6_; have NB246_233 := n7_; clear n0_ n1_ n2_ n3_ n4_ n5_ n6_ n7_; clear hb hbox hg; have hnb24 := NB246_233.out; have hnc24 := NB233_246.out; have hcz25_0 : w23.cell? ⟨gb246, 0, none⟩ = some (.bool false) := (blk_cell BK246.out 0).trans rfl; have hcz25_1 : w23.cell? ⟨gb246, 1, none⟩ = some (.int .i64 0) := (blk_cell BK246.out 1).trans rfl; have hcz25_2 : w23.cell? ⟨gb246, 2, none⟩ = some (.string (⟨#[]⟩ : ByteArray)) := (blk_cell BK246.out 2).trans rfl; have hcz25_3 : w23.cell? ⟨gb246, 3, none⟩ = some (.slice none 0 0) := (blk_cell BK246.out 3).trans rfl; have hfz25_0 := blk_frozen BK246.out 0; have hfz25_1 := blk_frozen BK246.out 1; have hfz25_2 := blk_frozen BK246.out 2; have hfz25_3 := blk_frozen BK246.out 3; obtain ⟨Ao26, co26, eo26⟩ := Kd.R_slice HO244.out; subst eo26) | ((with_reducible refine gate_callee (f := 43) rfl ?_); refine goesL_ (some 56) rfl rfl Try.func43 (by kernel_rfl) rfl #[.string (t236 ++ a1)] rfl (by (try simp only [List.map_toArray, List.map_cons, List.map_nil]); first | done | rfl | (simp only [List.length_drop, List.length_take]; rfl)) ?_; (with_reducible refine (wire_First.calls kj6 (t236 ++ a1) t247 t248 t249 t250 t253 t254 _ A18.out).mono ?_); rintro e w27 ⟨v251, rfl, ho0, hb⟩; refine ⟨_, rfl, ?_⟩; have n0_ := Aside0.mk (Kd.R_elder' (by (with_reducible repeat (first | apply Kd.R_alloc | apply Kd.R_drewN | apply Kd.R_drew)); exact (Kd.R_mono (Kd.R_far (p := ⟨gb246, 3, none⟩) (Kd.R_far (p := ⟨gb246, 2, none⟩) (Kd.R_far (p := ⟨gb246, 1, none⟩) (Kd.R_far (p := ⟨gb246, 0, none⟩) (Kd.R_mono HO244.out (fun k_ hk => (⟨hk, hk.2⟩ : _ ∧ k_ ≠ gb246))) (fun _ hk => hk.2) (.bool t239)) (fun _ hk => hk.2) (.int .i64 t240)) (fun _ hk => hk.2) (.string t241)) (fun _ hk => hk.2) (.slice Ao26 t242.length co26)) (fun _ h_ => h_.1))) (Kd.R_base ho0) hb); have n1_ := Aside0.mk (Kd.R_lower (Kd.R_newB (Kd.R_newB (Kd.R_new' ho0 (Kd.R_lt (by (with_reducible repeat (first | apply Kd.R_alloc | apply Kd.R_drewN | apply Kd.R_drew)); exact (Kd.R_mono (Kd.R_far (p := ⟨gb246, 3, none⟩) (Kd.R_far (p := ⟨gb246, 2, none⟩) (Kd.R_far (p := ⟨gb246, 1, none⟩) (Kd.R_far (p := ⟨gb246, 0, none⟩) (Kd.R_mono HO244.out (fun k_ hk => (⟨hk, hk.2⟩ : _ ∧ k_ ≠ gb246))) (fun _ hk => hk.2) (.bool t239)) (fun _ hk => hk.2) (.int .i64 t240)) (fun _ hk => hk.2) (.string t241)) (fun _ hk => hk.2) (.slice Ao26 t242.length co26)) (fun _ h_ => h_.1))))) (g := gb233) (o := .cells #[.bool a0_0, .int .i64 a0_1, .string a0_2, .slice A0_3 l0_3.length c0_3] 44 (0, 0)) (by (with_reducible repeat (first | refine blk_drewN ?_ _ | refine blk_drew ?_ | refine blk_alloc ?_ _)); refine blk_far ?_ NB233_246.out _; (with_reducible repeat (first | refine blk_drewN ?_ _ | refine blk_drew ?_ | refine blk_alloc ?_ _)); refine blk_far ?_ NB233_246.out _; (with_reducible repeat (first | refine blk_drewN ?_ _ | refine blk_drew ?_ | refine blk_alloc ?_ _)); refine blk_far ?_ NB233_246.out _; (with_reducible repeat (first | refine blk_drewN ?_ _ | refine blk_drew ?_ | refine blk_alloc ?_ _)); refine blk_far ?_ NB233_246.out _; (with_reducible repeat (first | refine blk_drewN ?_ _ | refine blk_drew ?_ | refine blk_alloc ?_ _)); exact BK233.out)) (g := gb246) (o := .cells #[.bool t239, .int .i64 t240, .string t241, .slice Ao26 t242.length co26] 44 (0, 0)) (by (with_reducible repeat (first | refine blk_drewN ?_ _ | refine blk_drew ?_ | refine blk_alloc ?_ _)); refine blk_put (cs := #[.bool t239, .int .i64 t240, .string t241, .slice none 0 0]) ?_ 3 _ rfl; (with_reducible repeat (first | refine blk_drewN ?_ _ | refine blk_drew ?_ | refine blk_alloc ?_ _)); refine blk_put (cs := #[.bool t239, .int .i64 t240, .string (⟨#[]⟩ : ByteArray), .slice none 0 0]) ?_ 2 _ rfl; (with_reducible repeat (first | refine blk_drewN ?_ _ | refine blk_drew ?_ | refine blk_alloc ?_ _)); refine blk_put (cs := #[.bool t239, .int .i64 0, .string (⟨#[]⟩ : ByteArray), .slice none 0 0]) ?_ 1 _ rfl; (with_reducible repeat (first | refine blk_drewN ?_ _ | refine blk_drew ?_ | refine blk_alloc ?_ _)); refine blk_put (cs := #[.bool false, .int .i64 0, .string (⟨#[]⟩ : ByteArray), .slice none 0 0]) ?_ 0 _ rfl; (with_reducible repeat (first | refine blk_drewN ?_ _ | refine blk_drew ?_ | refine blk_alloc ?_ _)); exact BK246.out)) (below_size (by repeat (first | (with_reducible first | exact HB.out | apply below_alloc | apply pw_below_drewN | apply below_drew1 | refine below_set ?_ GE233.out | refine below_set ?_ GE246.out) | exact HB.out)))); have n2_ := Aside0.mk (blk_below (g := gb233) (o := .cells #[.bool a0_0, .int .i64 a0_1, .string a0_2, .slice A0_3 l0_3.length c0_3] 44 (0, 0)) (by (with_reducible repeat (first | refine blk_drewN ?_ _ | refine blk_drew ?_ | refine blk_alloc ?_ _)); refine blk_far ?_ NB233_246.out _; (with_reducible repeat (first | refine blk_drewN ?_ _ | refine blk_drew ?_ | refine blk_alloc ?_ _)); refine blk_far ?_ NB233_246.out _; (with_reducible repeat (first | refine blk_drewN ?_ _ | refine blk_drew ?_ | refine blk_alloc ?_ _)); refine blk_far ?_ NB233_246.out _; (with_reducible repeat (first | refine blk_drewN ?_ _ | refine blk_drew ?_ | refine blk_alloc ?_ _)); refine blk_far ?_ NB233_246.out _; (with_reducible repeat (first | refine blk_drewN ?_ _ | refine blk_drew ?_ | refine blk_alloc ?_ _)); exact BK233.out) hb); have n3_ := Aside0.mk (blk_below (g := gb246) (o := .cells #[.bool t239, .int .i64 t240, .string t241, .slice Ao26 t242.length co26] 44 (0, 0)) (by (with_reducible repeat (first | refine blk_drewN ?_ _ | refine blk_drew ?_ | refine blk_alloc ?_ _)); refine blk_put (cs := #[.bool t239, .int .i64 t240, .string t241, .slice none 0 0]) ?_ 3 _ rfl; (with_reducible repeat (first | refine blk_drewN ?_ _ | refine blk_drew ?_ | refine blk_alloc ?_ _)); refine blk_put (cs := #[.bool t239, .int .i64 t240, .string (⟨#[]⟩ : ByteArray), .slice none 0 0]) ?_ 2 _ rfl; (with_reducible repeat (first | refine blk_drewN ?_ _ | refine blk_drew ?_ | refine blk_alloc ?_ _)); refine blk_put (cs := #[.bool t239, .int .i64 0, .string (⟨#[]⟩ : ByteArray), .slice none 0 0]) ?_ 1 _ rfl; (with_reducible repeat (first | refine blk_drewN ?_ _ | refine blk_drew ?_ | refine blk_alloc ?_ _)); refine blk_put (cs := #[.bool false, .int .i64 0, .string (⟨#[]⟩ : ByteArray), .slice none 0 0]) ?_ 0 _ rfl; (with_reducible repeat (first | refine blk_drewN ?_ _ | refine blk_drew ?_ | refine blk_alloc ?_ _)); exact BK246.out) hb); have n4_ := Aside0.mk (below_step (by repeat (first | (with_reducible first | exact HB.out | apply below_alloc | apply pw_below_drewN | apply below_drew1 | refine below_set ?_ GE233.out | refine below_set ?_ GE246.out) | exact HB.out)) hb); clear HO244; clear BK233; clear BK246; clear HB; have HO244 := n0_; have HO252 := n1_; have BK233 := n2_; have BK246 := n3_; have HB := n4_; clear n0_ n1_ n2_ n3_ n4_; (try clear hb); (try clear hb2); (try clear hk); (try clear hi); (try clear ho0)) | ((with_reducible refine gate_dst (N := 13) rfl ?_); (try (refine gate_guard (by rfl) ?_; dsimp only)); refine box_event ?hg (N := 13) ?hd (cs := #[.bool false, .int .i64 0, .string (⟨#[]⟩ : ByteArray), .slice none 0 0]) (t := 44) ?hr ?_; (case hd => rfl); (case hg => rfl); (case hr => first | (go_simp; done) | (go_simp; rfl)); intro gb255 hg w28 hbox hb; have n0_ := Aside0.mk (Kd.R_below (Kd.R_elderB (by (with_reducible repeat (first | apply Kd.R_alloc | apply Kd.R_drewN | apply Kd.R_drew)); exact HO244.out) gb255 (Nat.le_of_eq hg.symm)) hb); have n1_ := Aside0.mk (Kd.R_below (Kd.R_elderB (by (with_reducible repeat (first | apply Kd.R_alloc | apply Kd.R_drewN | apply Kd.R_drew)); exact HO252.out) gb255 (Nat.le_of_eq hg.symm)) hb); have n2_ := Aside0.mk (blk_below (g := gb233) (o := .cells #[.bool a0_0, .int .i64 a0_1, .string a0_2, .slice A0_3 l0_3.length c0_3] 44 (0, 0)) (by (with_reducible repeat (first | refine blk_drewN ?_ _ | refine blk_drew ?_ | refine blk_alloc ?_ _)); exact BK233.out) hb); have n3_ := Aside0.mk (blk_below (g := gb246) (o := .cells #[.bool t239, .int .i64 t240, .string t241, .slice Ao26 t242.length co26] 44 (0, 0)) (by (with_reducible repeat (first | refine blk_drewN ?_ _ | refine blk_drew ?_ | refine blk_alloc ?_ _)); exact BK246.out) hb); have n4_ := Aside0.mk (below_step (by repeat (first | (with_reducible first | exact HB.out | apply below_alloc | apply pw_below_drewN | apply below_drew1 | refine below_set ?_ GE233.out | refine below_set ?_ GE246.out) | exact HB.out)) hb); have n5_ := Aside0.mk (hbox); have n6_ := Aside0.mk ((by rw [hg]; exact (below_size (by repeat (first | (with_reducible first | exact HB.out | apply below_alloc | apply pw_below_drewN | apply below_drew1 | refine below_set ?_ GE233.out | refine below_set ?_ GE246.out) | exact HB.out))) : w.heap.size ≤ gb255)); have n7_ := Aside0.mk ((by rw [hg]; exact (below_size (by repeat (first | (with_reducible first | exact HB.out | apply below_alloc | apply pw_below_drewN | apply below_drew1 | refine below_set ?_ GE233.out | refine below_set ?_ GE246.out) | exact HB.out))) : w.heap.size ≤ gb255)); have n8_ := Aside0.mk ((by rw [hg]; exact Nat.ne_of_lt (blk_lt (g := gb233) (o := .cells #[.bool a0_0, .int .i64 a0_1, .string a0_2, .slice A0_3 l0_3.length c0_3] 44 (0, 0)) (by (with_reducible repeat (first | refine blk_drewN ?_ _ | refine blk_drew ?_ | refine blk_alloc ?_ _)); exact BK233.out)) : gb233 ≠ gb255)); have n9_ := Aside0.mk ((by rw [hg]; exact Nat.ne_of_gt (blk_lt (g := gb233) (o := .cells #[.bool a0_0, .int .i64 a0_1, .string a0_2, .slice A0_3 l0_3.length c0_3] 44 (0, 0)) (by (with_reducible repeat (first | refine blk_drewN ?_ _ | refine blk_drew ?_ | refine blk_alloc ?_ _)); exact BK233.out)) : gb255 ≠ gb233)); have n10_ := Aside0.mk ((by rw [hg]; exact Nat.ne_of_lt (blk_lt (g := gb246) (o := .cells #[.bool t239, .int .i64 t240, .string t241, .slice Ao26 t242.length co26] 44 (0, 0)) (by (with_reducible repeat (first | refine blk_drewN ?_ _ | refine blk_drew ?_ | refine blk_alloc ?_ _)); exact BK246.out)) : gb246 ≠ gb255)); have n11_ := Aside0.mk ((by rw [hg]; exact Nat.ne_of_gt (blk_lt (g := gb246) (o := .cells #[.bool t239, .int .i64 t240, .string t241, .slice Ao26 t242.length co26] 44 (0, 0)) (by (with_reducible repeat (first | refine blk_drewN ?_ _ | refine blk_drew ?_ | refine blk_alloc ?_ _)); exact BK246.out)) : gb255 ≠ gb246)); clear HO244; clear HO252; clear BK233; clear BK246; clear HB; have HO244 := n0_; have HO252 := n1_; have BK233 := n2_; have BK246 := n3_; have HB := n4_; have BK255 := n5_; have GW255 := n6_; have GE255 := n7_; have NB233_255 := n8_; have NB255_233 := n9_; have NB246_255 := n10_; have NB255_246 := n11_; clear n0_ n1_ n2_ n3_ n4_ n5_ n6_ n7_ n8_ n9_ n10_ n11_; clear hb hbox hg; have hnb29 := NB255_233.out; have hnc29 := NB233_255.out; have hnb30 := NB255_246.out; have hnc30 := NB246_255.out; have hcz31_0 : w28.cell? ⟨gb255, 0, none⟩ = some (.bool false) := (blk_cell BK255.out 0).trans rfl; have hcz31_1 : w28.cell? ⟨gb255, 1, none⟩ = some (.int .i64 0) := (blk_cell BK255.out 1).trans rfl; have hcz31_2 : w28.cell? ⟨gb255, 2, none⟩ = some (.string (⟨#[]⟩ : ByteArray)) := (blk_cell BK255.out 2).trans rfl; have hcz31_3 : w28.cell? ⟨gb255, 3, none⟩ = some (.slice none 0 0) := (blk_cell BK255.out 3).trans rfl; have hfz31_0 := blk_frozen BK255.out 0; have hfz31_1 := blk_frozen BK255.out 1; have hfz31_2 := blk_frozen BK255.out 2; have hfz31_3 := blk_frozen BK255.out 3; obtain ⟨Ao32, co32, eo32⟩ := Kd.R_slice HO252.out; subst eo32))
              (try simp only [Act.put, List.setIfInBounds_toArray, List.set_cons_zero, List.set_cons_succ])
              go_cut [83] (fun v83 wc => ∃ (kq : Nat) (x83_18 : Bool), v83 = .bool x83_18 ∧ Aside0 (legatelaw01_WireBack.j1 kq a2 true t236 x83_18 = some r) ∧ Aside0 (kq ≤ kj6) ∧ Aside0 (Kd.R k44 44 wc w.heap.size (fun k_ => some k_ ≠ ((.slice Ao32 t250.length co32) : Value).ownBlock ∧ k_ ≠ gb233 ∧ k_ ≠ gb246 ∧ k_ ≠ gb255) (.slice Ao26 t242.length co26) t242) ∧ Aside0 (Kd.R k44 44 wc w.heap.size (fun k_ => some k_ ≠ ((.slice Ao26 t242.length co26) : Value).ownBlock ∧ k_ ≠ gb233 ∧ k_ ≠ gb246 ∧ k_ ≠ gb255) (.slice Ao32 t250.length co32) t250) ∧ Aside0 (wc.heap[gb233]? = some (.cells #[.bool a0_0, .int .i64 a0_1, .string a0_2, (.slice A0_3 l0_3.length c0_3)] 44 (0, 0))) ∧ Aside0 (wc.heap[gb246]? = some (.cells #[.bool t239, .int .i64 t240, .string t241, (.slice Ao26 t242.length co26)] 44 (0, 0))) ∧ Aside0 (wc.heap[gb255]? = some (.cells #[.bool t247, .int .i64 t248, .string t249, (.slice Ao32 t250.length co32)] 44 (0, 0))) ∧ Aside0 (Below w.heap.size w wc))
              case first =>
                have H := HC19.out
                clear HC19
                by_cases c33 : t245 = 0
                · rw [if_pos c33] at H
                  have c33b0 : (t245 == 0) = true := beq_iff_eq.mpr c33
                  have c33b1 : (t245 != 0) = false := bne_eq_false_iff_eq.mpr c33
                  clear c33
                  (first | rw [c33b0] | (simp only [i64_w, i32_w]; rw [c33b0]) | skip)
                  by_cases c34 : t254 = 0
                  · rw [if_pos c34] at H
                    have c34b0 : (t254 == 0) = true := beq_iff_eq.mpr c34
                    have c34b1 : (t254 != 0) = false := bne_eq_false_iff_eq.mpr c34
                    clear c34
                    by_cases c35 : t253 = (t236.size : Int)
                    · rw [if_pos c35] at H
                      have c35b0 : (t253 == (t236.size : Int)) = true := beq_iff_eq.mpr c35
                      have c35b1 : (t253 != (t236.size : Int)) = false := bne_eq_false_iff_eq.mpr c35
                      clear c35
                      replace H := Option.bind_eq_some_iff.mp H
                      obtain ⟨t256, A360, H⟩ := H
                      replace H : (if t256 = true then ((wire_Same.f a0_0 a0_1 a0_2 l0_3 t247 t248 t249 t250).bind fun t257 => (legatelaw01_WireBack.j1 kj6 a2 true t236 (!t257))) else (legatelaw01_WireBack.j1 kj6 a2 true t236 true)) = some r := H
                      have A36 := Aside0.mk A360
                      clear A360
                      by_cases c37 : t256 = true
                      · subst c37
                        have H1 : ((wire_Same.f a0_0 a0_1 a0_2 l0_3 t247 t248 t249 t250).bind fun t257 => (legatelaw01_WireBack.j1 kj6 a2 true t236 (!t257))) = some r := by rw [if_pos rfl] at H; exact H
                        clear H
                        have H := H1
                        clear H1
                        replace H := Option.bind_eq_some_iff.mp H
                        obtain ⟨t257, A380, H⟩ := H
                        replace H : (legatelaw01_WireBack.j1 kj6 a2 true t236 (!t257)) = some r := H
                        have A38 := Aside0.mk A380
                        clear A380
                        have H' := Aside0.mk H
                        clear H
                        have hnb39 := NB233_246.out
                        have hnc39 := NB246_233.out
                        have hnb40 := NB233_255.out
                        have hnc40 := NB255_233.out
                        have hcz41_0 : w28.cell? ⟨gb233, 0, none⟩ = some (.bool a0_0) := (blk_cell BK233.out 0).trans rfl
                        have hcz41_1 : w28.cell? ⟨gb233, 1, none⟩ = some (.int .i64 a0_1) := (blk_cell BK233.out 1).trans rfl
                        have hcz41_2 : w28.cell? ⟨gb233, 2, none⟩ = some (.string a0_2) := (blk_cell BK233.out 2).trans rfl
                        have hcz41_3 : w28.cell? ⟨gb233, 3, none⟩ = some (.slice A0_3 l0_3.length c0_3) := (blk_cell BK233.out 3).trans rfl
                        have hfz41_0 := blk_frozen BK233.out 0
                        have hfz41_1 := blk_frozen BK233.out 1
                        have hfz41_2 := blk_frozen BK233.out 2
                        have hfz41_3 := blk_frozen BK233.out 3
                        have hnb42 := NB246_255.out
                        have hnc42 := NB255_246.out
                        have hcz43_0 : w28.cell? ⟨gb246, 0, none⟩ = some (.bool t239) := (blk_cell BK246.out 0).trans rfl
                        have hcz43_1 : w28.cell? ⟨gb246, 1, none⟩ = some (.int .i64 t240) := (blk_cell BK246.out 1).trans rfl
                        have hcz43_2 : w28.cell? ⟨gb246, 2, none⟩ = some (.string t241) := (blk_cell BK246.out 2).trans rfl
                        have hcz43_3 : w28.cell? ⟨gb246, 3, none⟩ = some (.slice Ao26 t242.length co26) := (blk_cell BK246.out 3).trans rfl
                        have hfz43_0 := blk_frozen BK246.out 0
                        have hfz43_1 := blk_frozen BK246.out 1
                        have hfz43_2 := blk_frozen BK246.out 2
                        have hfz43_3 := blk_frozen BK246.out 3
                        go_wp2_with (first | (go_at_call 40; (with_reducible refine (wire_Same.calls a0_0 a0_1 a0_2 _ _ l0_3 t239 t240 t241 _ _ t242 true _ ?side1 ?side2 ?side3 ?side4 A36.out).mono ?_); (case side1 => exact Kd.C_below HR0_3.out (by repeat (first | (with_reducible first | exact HB.out | apply below_alloc | apply pw_below_drewN | apply below_drew1 | refine below_set ?_ GE233.out | refine below_set ?_ GE246.out | refine below_set ?_ GE255.out) | exact HB.out))); (case side2 => exact HC0_3.out); (case side3 => refine (Kd.R_reads' (e := 44) (base := w.heap.size) (ok := fun k_ => ((((True ∧ k_ ≠ gb233) ∧ k_ ≠ gb246) ∧ some k_ ≠ (.slice Ao32 t250.length co32 : Value).ownBlock) ∧ k_ ≠ gb255)) (n := t242.length) (c := co26) ?_).2.2; exact (by (with_reducible repeat (first | apply Kd.R_alloc | apply Kd.R_drewN | apply Kd.R_drew)); exact (Kd.R_mono (Kd.R_far (p := ⟨gb255, 3, none⟩) (Kd.R_far (p := ⟨gb255, 2, none⟩) (Kd.R_far (p := ⟨gb255, 1, none⟩) (Kd.R_far (p := ⟨gb255, 0, none⟩) (Kd.R_mono HO244.out (fun k_ hk => (⟨hk, hk.2⟩ : _ ∧ k_ ≠ gb255))) (fun _ hk => hk.2) (.bool t247)) (fun _ hk => hk.2) (.int .i64 t248)) (fun _ hk => hk.2) (.string t249)) (fun _ hk => hk.2) (.slice Ao32 t250.length co32)) (fun _ h_ => h_.1)))); (case side4 => exact (Kd.R_reads' HO244.out).2.1); rintro e w44 ⟨rfl, hb⟩; have n0_ := Aside0.mk (Kd.R_below (by (with_reducible repeat (first | apply Kd.R_alloc | apply Kd.R_drewN | apply Kd.R_drew)); exact (Kd.R_mono (Kd.R_far (p := ⟨gb255, 3, none⟩) (Kd.R_far (p := ⟨gb255, 2, none⟩) (Kd.R_far (p := ⟨gb255, 1, none⟩) (Kd.R_far (p := ⟨gb255, 0, none⟩) (Kd.R_mono HO244.out (fun k_ hk => (⟨hk, hk.2⟩ : _ ∧ k_ ≠ gb255))) (fun _ hk => hk.2) (.bool t247)) (fun _ hk => hk.2) (.int .i64 t248)) (fun _ hk => hk.2) (.string t249)) (fun _ hk => hk.2) (.slice Ao32 t250.length co32)) (fun _ h_ => h_.1))) hb); have n1_ := Aside0.mk (Kd.R_below (by (with_reducible repeat (first | apply Kd.R_alloc | apply Kd.R_drewN | apply Kd.R_drew)); exact (Kd.R_mono (Kd.R_far (p := ⟨gb255, 3, none⟩) (Kd.R_far (p := ⟨gb255, 2, none⟩) (Kd.R_far (p := ⟨gb255, 1, none⟩) (Kd.R_far (p := ⟨gb255, 0, none⟩) (Kd.R_mono HO252.out (fun k_ hk => (⟨hk, hk.2⟩ : _ ∧ k_ ≠ gb255))) (fun _ hk => hk.2) (.bool t247)) (fun _ hk => hk.2) (.int .i64 t248)) (fun _ hk => hk.2) (.string t249)) (fun _ hk => hk.2) (.slice Ao32 t250.length co32)) (fun _ h_ => h_.1))) hb); have n2_ := Aside0.mk (blk_below (g := gb233) (o := .cells #[.bool a0_0, .int .i64 a0_1, .string a0_2, .slice A0_3 l0_3.length c0_3] 44 (0, 0)) (by (with_reducible repeat (first | refine blk_drewN ?_ _ | refine blk_drew ?_ | refine blk_alloc ?_ _)); refine blk_far ?_ NB233_255.out _; (with_reducible repeat (first | refine blk_drewN ?_ _ | refine blk_drew ?_ | refine blk_alloc ?_ _)); refine blk_far ?_ NB233_255.out _; (with_reducible repeat (first | refine blk_drewN ?_ _ | refine blk_drew ?_ | refine blk_alloc ?_ _)); refine blk_far ?_ NB233_255.out _; (with_reducible repeat (first | refine blk_drewN ?_ _ | refine blk_drew ?_ | refine blk_alloc ?_ _)); refine blk_far ?_ NB233_255.out _; (with_reducible repeat (first | refine blk_drewN ?_ _ | refine blk_drew ?_ | refine blk_alloc ?_ _)); exact BK233.out) hb); have n3_ := Aside0.mk (blk_below (g := gb246) (o := .cells #[.bool t239, .int .i64 t240, .string t241, .slice Ao26 t242.length co26] 44 (0, 0)) (by (with_reducible repeat (first | refine blk_drewN ?_ _ | refine blk_drew ?_ | refine blk_alloc ?_ _)); refine blk_far ?_ NB246_255.out _; (with_reducible repeat (first | refine blk_drewN ?_ _ | refine blk_drew ?_ | refine blk_alloc ?_ _)); refine blk_far ?_ NB246_255.out _; (with_reducible repeat (first | refine blk_drewN ?_ _ | refine blk_drew ?_ | refine blk_alloc ?_ _)); refine blk_far ?_ NB246_255.out _; (with_reducible repeat (first | refine blk_drewN ?_ _ | refine blk_drew ?_ | refine blk_alloc ?_ _)); refine blk_far ?_ NB246_255.out _; (with_reducible repeat (first | refine blk_drewN ?_ _ | refine blk_drew ?_ | refine blk_alloc ?_ _)); exact BK246.out) hb); have n4_ := Aside0.mk (blk_below (g := gb255) (o := .cells #[.bool t247, .int .i64 t248, .string t249, .slice Ao32 t250.length co32] 44 (0, 0)) (by (with_reducible repeat (first | refine blk_drewN ?_ _ | refine blk_drew ?_ | refine blk_alloc ?_ _)); refine blk_put (cs := #[.bool t247, .int .i64 t248, .string t249, .slice none 0 0]) ?_ 3 _ rfl; (with_reducible repeat (first | refine blk_drewN ?_ _ | refine blk_drew ?_ | refine blk_alloc ?_ _)); refine blk_put (cs := #[.bool t247, .int .i64 t248, .string (⟨#[]⟩ : ByteArray), .slice none 0 0]) ?_ 2 _ rfl; (with_reducible repeat (first | refine blk_drewN ?_ _ | refine blk_drew ?_ | refine blk_alloc ?_ _)); refine blk_put (cs := #[.bool t247, .int .i64 0, .string (⟨#[]⟩ : ByteArray), .slice none 0 0]) ?_ 1 _ rfl; (with_reducible repeat (first | refine blk_drewN ?_ _ | refine blk_drew ?_ | refine blk_alloc ?_ _)); refine blk_put (cs := #[.bool false, .int .i64 0, .string (⟨#[]⟩ : ByteArray), .slice none 0 0]) ?_ 0 _ rfl; (with_reducible repeat (first | refine blk_drewN ?_ _ | refine blk_drew ?_ | refine blk_alloc ?_ _)); exact BK255.out) hb); have n5_ := Aside0.mk (below_step (by repeat (first | (with_reducible first | exact HB.out | apply below_alloc | apply pw_below_drewN | apply below_drew1 | refine below_set ?_ GE233.out | refine below_set ?_ GE246.out | refine below_set ?_ GE255.out) | exact HB.out)) hb); clear HO244; clear HO252; clear BK233; clear BK246; clear BK255; clear HB; have HO244 := n0_; have HO252 := n1_; have BK233 := n2_; have BK246 := n3_; have BK255 := n4_; have HB := n5_; clear n0_ n1_ n2_ n3_ n4_ n5_; (try clear hb); (try clear hb2); (try clear hk); (try clear hi); have hcz45_0 : w44.cell? ⟨gb233, 0, none⟩ = some (.bool a0_0) := (blk_cell BK233.out 0).trans rfl; have hcz45_1 : w44.cell? ⟨gb233, 1, none⟩ = some (.int .i64 a0_1) := (blk_cell BK233.out 1).trans rfl; have hcz45_2 : w44.cell? ⟨gb233, 2, none⟩ = some (.string a0_2) := (blk_cell BK233.out 2).trans rfl; have hcz45_3 : w44.cell? ⟨gb233, 3, none⟩ = some (.slice A0_3 l0_3.length c0_3) := (blk_cell BK233.out 3).trans rfl; have hfz45_0 := blk_frozen BK233.out 0; have hfz45_1 := blk_frozen BK233.out 1; have hfz45_2 := blk_frozen BK233.out 2; have hfz45_3 := blk_frozen BK233.out 3; have hcz46_0 : w44.cell? ⟨gb255, 0, none⟩ = some (.bool t247) := (blk_cell BK255.out 0).trans rfl; have hcz46_1 : w44.cell? ⟨gb255, 1, none⟩ = some (.int .i64 t248) := (blk_cell BK255.out 1).trans rfl; have hcz46_2 : w44.cell? ⟨gb255, 2, none⟩ = some (.string t249) := (blk_cell BK255.out 2).trans rfl; have hcz46_3 : w44.cell? ⟨gb255, 3, none⟩ = some (.slice Ao32 t250.length co32) := (blk_cell BK255.out 3).trans rfl; have hfz46_0 := blk_frozen BK255.out 0; have hfz46_1 := blk_frozen BK255.out 1; have hfz46_2 := blk_frozen BK255.out 2; have hfz46_3 := blk_frozen BK255.out 3) | (go_at_call 40; (with_reducible refine (wire_Same.calls a0_0 a0_1 a0_2 _ _ l0_3 t247 t248 t249 _ _ t250 t257 _ ?side1 ?side2 ?side3 ?side4 A38.out).mono ?_); (case side1 => repeat (first | exact (Kd.C_below HR0_3.out HB.out) | (with_reducible refine Kd.C_alloc ?_ _) | (with_reducible refine Kd.C_drewN ?_ _) | (with_reducible refine Kd.C_drew ?_))); (case side2 => exact HC0_3.out); (case side3 => repeat (first | exact (Kd.R_reads' HO252.out).2.2 | (with_reducible refine Kd.C_alloc ?_ _) | (with_reducible refine Kd.C_drewN ?_ _) | (with_reducible refine Kd.C_drew ?_))); (case side4 => exact (Kd.R_reads' HO252.out).2.1); rintro e w47 ⟨rfl, hb⟩; have n0_ := Aside0.mk (Kd.R_below (by (with_reducible repeat (first | apply Kd.R_alloc | apply Kd.R_drewN | apply Kd.R_drew)); exact HO244.out) hb); have n1_ := Aside0.mk (Kd.R_below (by (with_reducible repeat (first | apply Kd.R_alloc | apply Kd.R_drewN | apply Kd.R_drew)); exact HO252.out) hb); have n2_ := Aside0.mk (blk_below (g := gb233) (o := .cells #[.bool a0_0, .int .i64 a0_1, .string a0_2, .slice A0_3 l0_3.length c0_3] 44 (0, 0)) (by (with_reducible repeat (first | refine blk_drewN ?_ _ | refine blk_drew ?_ | refine blk_alloc ?_ _)); exact BK233.out) hb); have n3_ := Aside0.mk (blk_below (g := gb246) (o := .cells #[.bool t239, .int .i64 t240, .string t241, .slice Ao26 t242.length co26] 44 (0, 0)) (by (with_reducible repeat (first | refine blk_drewN ?_ _ | refine blk_drew ?_ | refine blk_alloc ?_ _)); exact BK246.out) hb); have n4_ := Aside0.mk (blk_below (g := gb255) (o := .cells #[.bool t247, .int .i64 t248, .string t249, .slice Ao32 t250.length co32] 44 (0, 0)) (by (with_reducible repeat (first | refine blk_drewN ?_ _ | refine blk_drew ?_ | refine blk_alloc ?_ _)); exact BK255.out) hb); have n5_ := Aside0.mk (below_step (by repeat (first | (with_reducible first | exact HB.out | apply below_alloc | apply pw_below_drewN | apply below_drew1 | refine below_set ?_ GE233.out | refine below_set ?_ GE246.out | refine below_set ?_ GE255.out) | exact HB.out)) hb); clear HO244; clear HO252; clear BK233; clear BK246; clear BK255; clear HB; have HO244 := n0_; have HO252 := n1_; have BK233 := n2_; have BK246 := n3_; have BK255 := n4_; have HB := n5_; clear n0_ n1_ n2_ n3_ n4_ n5_; (try clear hb); (try clear hb2); (try clear hk); (try clear hi)))
                        go_meet
                        case rel => exact ⟨_, (!t257), (by first | rfl | (simp; done) | (simp [*]; done)), H', ⟨by have := HJ6.out; first | omega | exact Nat.le_refl _⟩, ⟨by (with_reducible repeat (first | apply Kd.R_alloc | apply Kd.R_drewN | apply Kd.R_drew)); exact Kd.R_mono HO244.out (fun _ hk => ⟨hk.1.2, ⟨hk.1.1.1.2, ⟨hk.1.1.2, hk.2⟩⟩⟩)⟩, ⟨by (with_reducible repeat (first | apply Kd.R_alloc | apply Kd.R_drewN | apply Kd.R_drew)); exact Kd.R_mono HO252.out (fun _ hk => ⟨hk.1.1.1.2, ⟨hk.1.1.2, ⟨hk.1.2, hk.2⟩⟩⟩)⟩, ⟨by (with_reducible repeat (first | refine blk_drewN ?_ _ | refine blk_drew ?_ | refine blk_alloc ?_ _)); exact BK233.out⟩, ⟨by (with_reducible repeat (first | refine blk_drewN ?_ _ | refine blk_drew ?_ | refine blk_alloc ?_ _)); exact BK246.out⟩, ⟨by (with_reducible repeat (first | refine blk_drewN ?_ _ | refine blk_drew ?_ | refine blk_alloc ?_ _)); exact BK255.out⟩, ⟨by repeat (first | (with_reducible first | exact HB.out | apply below_alloc | apply pw_below_drewN | apply below_drew1 | refine below_set ?_ GE233.out | refine below_set ?_ GE246.out | refine below_set ?_ GE255.out) | exact HB.out)⟩⟩
                      · replace c37 := Bool.eq_false_iff.mpr c37
                        subst c37
                        have H1 : (legatelaw01_WireBack.j1 kj6 a2 true t236 true) = some r := by rw [if_neg (show ¬ (false = true) by decide)] at H; exact H
                        clear H
                        have H := H1
                        clear H1
                        have H' := Aside0.mk H
                        clear H
                        have hnb48 := NB233_246.out
                        have hnc48 := NB246_233.out
                        have hnb49 := NB233_255.out
                        have hnc49 := NB255_233.out
                        have hcz50_0 : w28.cell? ⟨gb233, 0, none⟩ = some (.bool a0_0) := (blk_cell BK233.out 0).trans rfl
                        have hcz50_1 : w28.cell? ⟨gb233, 1, none⟩ = some (.int .i64 a0_1) := (blk_cell BK233.out 1).trans rfl
                        have hcz50_2 : w28.cell? ⟨gb233, 2, none⟩ = some (.string a0_2) := (blk_cell BK233.out 2).trans rfl
                        have hcz50_3 : w28.cell? ⟨gb233, 3, none⟩ = some (.slice A0_3 l0_3.length c0_3) := (blk_cell BK233.out 3).trans rfl
                        have hfz50_0 := blk_frozen BK233.out 0
                        have hfz50_1 := blk_frozen BK233.out 1
                        have hfz50_2 := blk_frozen BK233.out 2
                        have hfz50_3 := blk_frozen BK233.out 3
                        have hnb51 := NB246_255.out
                        have hnc51 := NB255_246.out
                        have hcz52_0 : w28.cell? ⟨gb246, 0, none⟩ = some (.bool t239) := (blk_cell BK246.out 0).trans rfl
                        have hcz52_1 : w28.cell? ⟨gb246, 1, none⟩ = some (.int .i64 t240) := (blk_cell BK246.out 1).trans rfl
                        have hcz52_2 : w28.cell? ⟨gb246, 2, none⟩ = some (.string t241) := (blk_cell BK246.out 2).trans rfl
                        have hcz52_3 : w28.cell? ⟨gb246, 3, none⟩ = some (.slice Ao26 t242.length co26) := (blk_cell BK246.out 3).trans rfl
                        have hfz52_0 := blk_frozen BK246.out 0
                        have hfz52_1 := blk_frozen BK246.out 1
                        have hfz52_2 := blk_frozen BK246.out 2
                        have hfz52_3 := blk_frozen BK246.out 3
                        go_wp2_with (first | (go_at_call 40; (with_reducible refine (wire_Same.calls a0_0 a0_1 a0_2 _ _ l0_3 t239 t240 t241 _ _ t242 false _ ?side1 ?side2 ?side3 ?side4 A36.out).mono ?_); (case side1 => exact Kd.C_below HR0_3.out (by repeat (first | (with_reducible first | exact HB.out | apply below_alloc | apply pw_below_drewN | apply below_drew1 | refine below_set ?_ GE233.out | refine below_set ?_ GE246.out | refine below_set ?_ GE255.out) | exact HB.out))); (case side2 => exact HC0_3.out); (case side3 => refine (Kd.R_reads' (e := 44) (base := w.heap.size) (ok := fun k_ => ((((True ∧ k_ ≠ gb233) ∧ k_ ≠ gb246) ∧ some k_ ≠ (.slice Ao32 t250.length co32 : Value).ownBlock) ∧ k_ ≠ gb255)) (n := t242.length) (c := co26) ?_).2.2; exact (by (with_reducible repeat (first | apply Kd.R_alloc | apply Kd.R_drewN | apply Kd.R_drew)); exact (Kd.R_mono (Kd.R_far (p := ⟨gb255, 3, none⟩) (Kd.R_far (p := ⟨gb255, 2, none⟩) (Kd.R_far (p := ⟨gb255, 1, none⟩) (Kd.R_far (p := ⟨gb255, 0, none⟩) (Kd.R_mono HO244.out (fun k_ hk => (⟨hk, hk.2⟩ : _ ∧ k_ ≠ gb255))) (fun _ hk => hk.2) (.bool t247)) (fun _ hk => hk.2) (.int .i64 t248)) (fun _ hk => hk.2) (.string t249)) (fun _ hk => hk.2) (.slice Ao32 t250.length co32)) (fun _ h_ => h_.1)))); (case side4 => exact (Kd.R_reads' HO244.out).2.1); rintro e w53 ⟨rfl, hb⟩; have n0_ := Aside0.mk (Kd.R_below (by (with_reducible repeat (first | apply Kd.R_alloc | apply Kd.R_drewN | apply Kd.R_drew)); exact (Kd.R_mono (Kd.R_far (p := ⟨gb255, 3, none⟩) (Kd.R_far (p := ⟨gb255, 2, none⟩) (Kd.R_far (p := ⟨gb255, 1, none⟩) (Kd.R_far (p := ⟨gb255, 0, none⟩) (Kd.R_mono HO244.out (fun k_ hk => (⟨hk, hk.2⟩ : _ ∧ k_ ≠ gb255))) (fun _ hk => hk.2) (.bool t247)) (fun _ hk => hk.2) (.int .i64 t248)) (fun _ hk => hk.2) (.string t249)) (fun _ hk => hk.2) (.slice Ao32 t250.length co32)) (fun _ h_ => h_.1))) hb); have n1_ := Aside0.mk (Kd.R_below (by (with_reducible repeat (first | apply Kd.R_alloc | apply Kd.R_drewN | apply Kd.R_drew)); exact (Kd.R_mono (Kd.R_far (p := ⟨gb255, 3, none⟩) (Kd.R_far (p := ⟨gb255, 2, none⟩) (Kd.R_far (p := ⟨gb255, 1, none⟩) (Kd.R_far (p := ⟨gb255, 0, none⟩) (Kd.R_mono HO252.out (fun k_ hk => (⟨hk, hk.2⟩ : _ ∧ k_ ≠ gb255))) (fun _ hk => hk.2) (.bool t247)) (fun _ hk => hk.2) (.int .i64 t248)) (fun _ hk => hk.2) (.string t249)) (fun _ hk => hk.2) (.slice Ao32 t250.length co32)) (fun _ h_ => h_.1))) hb); have n2_ := Aside0.mk (blk_below (g := gb233) (o := .cells #[.bool a0_0, .int .i64 a0_1, .string a0_2, .slice A0_3 l0_3.length c0_3] 44 (0, 0)) (by (with_reducible repeat (first | refine blk_drewN ?_ _ | refine blk_drew ?_ | refine blk_alloc ?_ _)); refine blk_far ?_ NB233_255.out _; (with_reducible repeat (first | refine blk_drewN ?_ _ | refine blk_drew ?_ | refine blk_alloc ?_ _)); refine blk_far ?_ NB233_255.out _; (with_reducible repeat (first | refine blk_drewN ?_ _ | refine blk_drew ?_ | refine blk_alloc ?_ _)); refine blk_far ?_ NB233_255.out _; (with_reducible repeat (first | refine blk_drewN ?_ _ | refine blk_drew ?_ | refine blk_alloc ?_ _)); refine blk_far ?_ NB233_255.out _; (with_reducible repeat (first | refine blk_drewN ?_ _ | refine blk_drew ?_ | refine blk_alloc ?_ _)); exact BK233.out) hb); have n3_ := Aside0.mk (blk_below (g := gb246) (o := .cells #[.bool t239, .int .i64 t240, .string t241, .slice Ao26 t242.length co26] 44 (0, 0)) (by (with_reducible repeat (first | refine blk_drewN ?_ _ | refine blk_drew ?_ | refine blk_alloc ?_ _)); refine blk_far ?_ NB246_255.out _; (with_reducible repeat (first | refine blk_drewN ?_ _ | refine blk_drew ?_ | refine blk_alloc ?_ _)); refine blk_far ?_ NB246_255.out _; (with_reducible repeat (first | refine blk_drewN ?_ _ | refine blk_drew ?_ | refine blk_alloc ?_ _)); refine blk_far ?_ NB246_255.out _; (with_reducible repeat (first | refine blk_drewN ?_ _ | refine blk_drew ?_ | refine blk_alloc ?_ _)); refine blk_far ?_ NB246_255.out _; (with_reducible repeat (first | refine blk_drewN ?_ _ | refine blk_drew ?_ | refine blk_alloc ?_ _)); exact BK246.out) hb); have n4_ := Aside0.mk (blk_below (g := gb255) (o := .cells #[.bool t247, .int .i64 t248, .string t249, .slice Ao32 t250.length co32] 44 (0, 0)) (by (with_reducible repeat (first | refine blk_drewN ?_ _ | refine blk_drew ?_ | refine blk_alloc ?_ _)); refine blk_put (cs := #[.bool t247, .int .i64 t248, .string t249, .slice none 0 0]) ?_ 3 _ rfl; (with_reducible repeat (first | refine blk_drewN ?_ _ | refine blk_drew ?_ | refine blk_alloc ?_ _)); refine blk_put (cs := #[.bool t247, .int .i64 t248, .string (⟨#[]⟩ : ByteArray), .slice none 0 0]) ?_ 2 _ rfl; (with_reducible repeat (first | refine blk_drewN ?_ _ | refine blk_drew ?_ | refine blk_alloc ?_ _)); refine blk_put (cs := #[.bool t247, .int .i64 0, .string (⟨#[]⟩ : ByteArray), .slice none 0 0]) ?_ 1 _ rfl; (with_reducible repeat (first | refine blk_drewN ?_ _ | refine blk_drew ?_ | refine blk_alloc ?_ _)); refine blk_put (cs := #[.bool false, .int .i64 0, .string (⟨#[]⟩ : ByteArray), .slice none 0 0]) ?_ 0 _ rfl; (with_reducible repeat (first | refine blk_drewN ?_ _ | refine blk_drew ?_ | refine blk_alloc ?_ _)); exact BK255.out) hb); have n5_ := Aside0.mk (below_step (by repeat (first | (with_reducible first | exact HB.out | apply below_alloc | apply pw_below_drewN | apply below_drew1 | refine below_set ?_ GE233.out | refine below_set ?_ GE246.out | refine below_set ?_ GE255.out) | exact HB.out)) hb); clear HO244; clear HO252; clear BK233; clear BK246; clear BK255; clear HB; have HO244 := n0_; have HO252 := n1_; have BK233 := n2_; have BK246 := n3_; have BK255 := n4_; have HB := n5_; clear n0_ n1_ n2_ n3_ n4_ n5_; (try clear hb); (try clear hb2); (try clear hk); (try clear hi)))
                        go_meet
                        case rel => exact ⟨_, (true), (by first | rfl | (simp; done) | (simp [*]; done)), H', ⟨by have := HJ6.out; first | omega | exact Nat.le_refl _⟩, ⟨by (with_reducible repeat (first | apply Kd.R_alloc | apply Kd.R_drewN | apply Kd.R_drew)); exact Kd.R_mono HO244.out (fun _ hk => ⟨hk.1.2, ⟨hk.1.1.1.2, ⟨hk.1.1.2, hk.2⟩⟩⟩)⟩, ⟨by (with_reducible repeat (first | apply Kd.R_alloc | apply Kd.R_drewN | apply Kd.R_drew)); exact Kd.R_mono HO252.out (fun _ hk => ⟨hk.1.1.1.2, ⟨hk.1.1.2, ⟨hk.1.2, hk.2⟩⟩⟩)⟩, ⟨by (with_reducible repeat (first | refine blk_drewN ?_ _ | refine blk_drew ?_ | refine blk_alloc ?_ _)); exact BK233.out⟩, ⟨by (with_reducible repeat (first | refine blk_drewN ?_ _ | refine blk_drew ?_ | refine blk_alloc ?_ _)); exact BK246.out⟩, ⟨by (with_reducible repeat (first | refine blk_drewN ?_ _ | refine blk_drew ?_ | refine blk_alloc ?_ _)); exact BK255.out⟩, ⟨by repeat (first | (with_reducible first | exact HB.out | apply below_alloc | apply pw_below_drewN | apply below_drew1 | refine below_set ?_ GE233.out | refine below_set ?_ GE246.out | refine below_set ?_ GE255.out) | exact HB.out)⟩⟩
                    · rw [if_neg c35] at H
                      have c35b0 : (t253 == (t236.size : Int)) = false := beq_eq_false_iff_ne.mpr c35
                      have c35b1 : (t253 != (t236.size : Int)) = true := bne_iff_ne.mpr c35
                      have H' := Aside0.mk H
                      clear H
                      go_wp2
                      go_meet
                      case rel => exact ⟨_, (true), (by first | rfl | (simp; done) | (simp [*]; done)), H', ⟨by have := HJ6.out; first | omega | exact Nat.le_refl _⟩, ⟨by (with_reducible repeat (first | apply Kd.R_alloc | apply Kd.R_drewN | apply Kd.R_drew)); exact Kd.R_mono (Kd.R_far (p := ⟨gb255, 3, none⟩) (Kd.R_far (p := ⟨gb255, 2, none⟩) (Kd.R_far (p := ⟨gb255, 1, none⟩) (Kd.R_far (p := ⟨gb255, 0, none⟩) (Kd.R_mono HO244.out (fun k_ hk => (⟨hk, hk.2⟩ : _ ∧ k_ ≠ gb255))) (fun _ hk => hk.2) (.bool t247)) (fun _ hk => hk.2) (.int .i64 t248)) (fun _ hk => hk.2) (.string t249)) (fun _ hk => hk.2) (.slice Ao32 t250.length co32)) (fun _ hk => ⟨hk.1.1.2, ⟨hk.1.1.1.1.2, ⟨hk.1.1.1.2, hk.1.2⟩⟩⟩)⟩, ⟨by (with_reducible repeat (first | apply Kd.R_alloc | apply Kd.R_drewN | apply Kd.R_drew)); exact Kd.R_mono (Kd.R_far (p := ⟨gb255, 3, none⟩) (Kd.R_far (p := ⟨gb255, 2, none⟩) (Kd.R_far (p := ⟨gb255, 1, none⟩) (Kd.R_far (p := ⟨gb255, 0, none⟩) (Kd.R_mono HO252.out (fun k_ hk => (⟨hk, hk.2⟩ : _ ∧ k_ ≠ gb255))) (fun _ hk => hk.2) (.bool t247)) (fun _ hk => hk.2) (.int .i64 t248)) (fun _ hk => hk.2) (.string t249)) (fun _ hk => hk.2) (.slice Ao32 t250.length co32)) (fun _ hk => ⟨hk.1.1.1.1.2, ⟨hk.1.1.1.2, ⟨hk.1.1.2, hk.1.2⟩⟩⟩)⟩, ⟨by (with_reducible repeat (first | refine blk_drewN ?_ _ | refine blk_drew ?_ | refine blk_alloc ?_ _)); refine blk_far ?_ NB233_255.out _; (with_reducible repeat (first | refine blk_drewN ?_ _ | refine blk_drew ?_ | refine blk_alloc ?_ _)); refine blk_far ?_ NB233_255.out _; (with_reducible repeat (first | refine blk_drewN ?_ _ | refine blk_drew ?_ | refine blk_alloc ?_ _)); refine blk_far ?_ NB233_255.out _; (with_reducible repeat (first | refine blk_drewN ?_ _ | refine blk_drew ?_ | refine blk_alloc ?_ _)); refine blk_far ?_ NB233_255.out _; (with_reducible repeat (first | refine blk_drewN ?_ _ | refine blk_drew ?_ | refine blk_alloc ?_ _)); exact BK233.out⟩, ⟨by (with_reducible repeat (first | refine blk_drewN ?_ _ | refine blk_drew ?_ | refine blk_alloc ?_ _)); refine blk_far ?_ NB246_255.out _; (with_reducible repeat (first | refine blk_drewN ?_ _ | refine blk_drew ?_ | refine blk_alloc ?_ _)); refine blk_far ?_ NB246_255.out _; (with_reducible repeat (first | refine blk_drewN ?_ _ | refine blk_drew ?_ | refine blk_alloc ?_ _)); refine blk_far ?_ NB246_255.out _; (with_reducible repeat (first | refine blk_drewN ?_ _ | refine blk_drew ?_ | refine blk_alloc ?_ _)); refine blk_far ?_ NB246_255.out _; (with_reducible repeat (first | refine blk_drewN ?_ _ | refine blk_drew ?_ | refine blk_alloc ?_ _)); exact BK246.out⟩, ⟨by (with_reducible repeat (first | refine blk_drewN ?_ _ | refine blk_drew ?_ | refine blk_alloc ?_ _)); refine blk_put (cs := #[.bool t247, .int .i64 t248, .string t249, .slice none 0 0]) ?_ 3 _ rfl; (with_reducible repeat (first | refine blk_drewN ?_ _ | refine blk_drew ?_ | refine blk_alloc ?_ _)); refine blk_put (cs := #[.bool t247, .int .i64 t248, .string (⟨#[]⟩ : ByteArray), .slice none 0 0]) ?_ 2 _ rfl; (with_reducible repeat (first | refine blk_drewN ?_ _ | refine blk_drew ?_ | refine blk_alloc ?_ _)); refine blk_put (cs := #[.bool t247, .int .i64 0, .string (⟨#[]⟩ : ByteArray), .slice none 0 0]) ?_ 1 _ rfl; (with_reducible repeat (first | refine blk_drewN ?_ _ | refine blk_drew ?_ | refine blk_alloc ?_ _)); refine blk_put (cs := #[.bool false, .int .i64 0, .string (⟨#[]⟩ : ByteArray), .slice none 0 0]) ?_ 0 _ rfl; (with_reducible repeat (first | refine blk_drewN ?_ _ | refine blk_drew ?_ | refine blk_alloc ?_ _)); exact BK255.out⟩, ⟨by repeat (first | (with_reducible first | exact HB.out | apply below_alloc | apply pw_below_drewN | apply below_drew1 | refine below_set ?_ GE233.out | refine below_set ?_ GE246.out | refine below_set ?_ GE255.out) | exact HB.out)⟩⟩
                  · rw [if_neg c34] at H
                    have c34b0 : (t254 == 0) = false := beq_eq_false_iff_ne.mpr c34
                    have c34b1 : (t254 != 0) = true := bne_iff_ne.mpr c34
                    have H' := Aside0.mk H
                    clear H
                    go_wp2
                    go_meet
                    case rel => exact ⟨_, (true), (by first | rfl | (simp; done) | (simp [*]; done)), H', ⟨by have := HJ6.out; first | omega | exact Nat.le_refl _⟩, ⟨by (with_reducible repeat (first | apply Kd.R_alloc | apply Kd.R_drewN | apply Kd.R_drew)); exact Kd.R_mono (Kd.R_far (p := ⟨gb255, 3, none⟩) (Kd.R_far (p := ⟨gb255, 2, none⟩) (Kd.R_far (p := ⟨gb255, 1, none⟩) (Kd.R_far (p := ⟨gb255, 0, none⟩) (Kd.R_mono HO244.out (fun k_ hk => (⟨hk, hk.2⟩ : _ ∧ k_ ≠ gb255))) (fun _ hk => hk.2) (.bool t247)) (fun _ hk => hk.2) (.int .i64 t248)) (fun _ hk => hk.2) (.string t249)) (fun _ hk => hk.2) (.slice Ao32 t250.length co32)) (fun _ hk => ⟨hk.1.1.2, ⟨hk.1.1.1.1.2, ⟨hk.1.1.1.2, hk.1.2⟩⟩⟩)⟩, ⟨by (with_reducible repeat (first | apply Kd.R_alloc | apply Kd.R_drewN | apply Kd.R_drew)); exact Kd.R_mono (Kd.R_far (p := ⟨gb255, 3, none⟩) (Kd.R_far (p := ⟨gb255, 2, none⟩) (Kd.R_far (p := ⟨gb255, 1, none⟩) (Kd.R_far (p := ⟨gb255, 0, none⟩) (Kd.R_mono HO252.out (fun k_ hk => (⟨hk, hk.2⟩ : _ ∧ k_ ≠ gb255))) (fun _ hk => hk.2) (.bool t247)) (fun _ hk => hk.2) (.int .i64 t248)) (fun _ hk => hk.2) (.string t249)) (fun _ hk => hk.2) (.slice Ao32 t250.length co32)) (fun _ hk => ⟨hk.1.1.1.1.2, ⟨hk.1.1.1.2, ⟨hk.1.1.2, hk.1.2⟩⟩⟩)⟩, ⟨by (with_reducible repeat (first | refine blk_drewN ?_ _ | refine blk_drew ?_ | refine blk_alloc ?_ _)); refine blk_far ?_ NB233_255.out _; (with_reducible repeat (first | refine blk_drewN ?_ _ | refine blk_drew ?_ | refine blk_alloc ?_ _)); refine blk_far ?_ NB233_255.out _; (with_reducible repeat (first | refine blk_drewN ?_ _ | refine blk_drew ?_ | refine blk_alloc ?_ _)); refine blk_far ?_ NB233_255.out _; (with_reducible repeat (first | refine blk_drewN ?_ _ | refine blk_drew ?_ | refine blk_alloc ?_ _)); refine blk_far ?_ NB233_255.out _; (with_reducible repeat (first | refine blk_drewN ?_ _ | refine blk_drew ?_ | refine blk_alloc ?_ _)); exact BK233.out⟩, ⟨by (with_reducible repeat (first | refine blk_drewN ?_ _ | refine blk_drew ?_ | refine blk_alloc ?_ _)); refine blk_far ?_ NB246_255.out _; (with_reducible repeat (first | refine blk_drewN ?_ _ | refine blk_drew ?_ | refine blk_alloc ?_ _)); refine blk_far ?_ NB246_255.out _; (with_reducible repeat (first | refine blk_drewN ?_ _ | refine blk_drew ?_ | refine blk_alloc ?_ _)); refine blk_far ?_ NB246_255.out _; (with_reducible repeat (first | refine blk_drewN ?_ _ | refine blk_drew ?_ | refine blk_alloc ?_ _)); refine blk_far ?_ NB246_255.out _; (with_reducible repeat (first | refine blk_drewN ?_ _ | refine blk_drew ?_ | refine blk_alloc ?_ _)); exact BK246.out⟩, ⟨by (with_reducible repeat (first | refine blk_drewN ?_ _ | refine blk_drew ?_ | refine blk_alloc ?_ _)); refine blk_put (cs := #[.bool t247, .int .i64 t248, .string t249, .slice none 0 0]) ?_ 3 _ rfl; (with_reducible repeat (first | refine blk_drewN ?_ _ | refine blk_drew ?_ | refine blk_alloc ?_ _)); refine blk_put (cs := #[.bool t247, .int .i64 t248, .string (⟨#[]⟩ : ByteArray), .slice none 0 0]) ?_ 2 _ rfl; (with_reducible repeat (first | refine blk_drewN ?_ _ | refine blk_drew ?_ | refine blk_alloc ?_ _)); refine blk_put (cs := #[.bool t247, .int .i64 0, .string (⟨#[]⟩ : ByteArray), .slice none 0 0]) ?_ 1 _ rfl; (with_reducible repeat (first | refine blk_drewN ?_ _ | refine blk_drew ?_ | refine blk_alloc ?_ _)); refine blk_put (cs := #[.bool false, .int .i64 0, .string (⟨#[]⟩ : ByteArray), .slice none 0 0]) ?_ 0 _ rfl; (with_reducible repeat (first | refine blk_drewN ?_ _ | refine blk_drew ?_ | refine blk_alloc ?_ _)); exact BK255.out⟩, ⟨by repeat (first | (with_reducible first | exact HB.out | apply below_alloc | apply pw_below_drewN | apply below_drew1 | refine below_set ?_ GE233.out | refine below_set ?_ GE246.out | refine below_set ?_ GE255.out) | exact HB.out)⟩⟩
                · rw [if_neg c33] at H
                  have c33b0 : (t245 == 0) = false := beq_eq_false_iff_ne.mpr c33
                  have c33b1 : (t245 != 0) = true := bne_iff_ne.mpr c33
                  (first | rw [c33b0] | (simp only [i64_w, i32_w]; rw [c33b0]) | skip)
                  have H' := Aside0.mk H
                  clear H
                  go_wp2
                  go_meet
                  case rel => exact ⟨_, (true), (by first | rfl | (simp; done) | (simp [*]; done)), H', ⟨by have := HJ6.out; first | omega | exact Nat.le_refl _⟩, ⟨by (with_reducible repeat (first | apply Kd.R_alloc | apply Kd.R_drewN | apply Kd.R_drew)); exact Kd.R_mono (Kd.R_far (p := ⟨gb255, 3, none⟩) (Kd.R_far (p := ⟨gb255, 2, none⟩) (Kd.R_far (p := ⟨gb255, 1, none⟩) (Kd.R_far (p := ⟨gb255, 0, none⟩) (Kd.R_mono HO244.out (fun k_ hk => (⟨hk, hk.2⟩ : _ ∧ k_ ≠ gb255))) (fun _ hk => hk.2) (.bool t247)) (fun _ hk => hk.2) (.int .i64 t248)) (fun _ hk => hk.2) (.string t249)) (fun _ hk => hk.2) (.slice Ao32 t250.length co32)) (fun _ hk => ⟨hk.1.1.2, ⟨hk.1.1.1.1.2, ⟨hk.1.1.1.2, hk.1.2⟩⟩⟩)⟩, ⟨by (with_reducible repeat (first | apply Kd.R_alloc | apply Kd.R_drewN | apply Kd.R_drew)); exact Kd.R_mono (Kd.R_far (p := ⟨gb255, 3, none⟩) (Kd.R_far (p := ⟨gb255, 2, none⟩) (Kd.R_far (p := ⟨gb255, 1, none⟩) (Kd.R_far (p := ⟨gb255, 0, none⟩) (Kd.R_mono HO252.out (fun k_ hk => (⟨hk, hk.2⟩ : _ ∧ k_ ≠ gb255))) (fun _ hk => hk.2) (.bool t247)) (fun _ hk => hk.2) (.int .i64 t248)) (fun _ hk => hk.2) (.string t249)) (fun _ hk => hk.2) (.slice Ao32 t250.length co32)) (fun _ hk => ⟨hk.1.1.1.1.2, ⟨hk.1.1.1.2, ⟨hk.1.1.2, hk.1.2⟩⟩⟩)⟩, ⟨by (with_reducible repeat (first | refine blk_drewN ?_ _ | refine blk_drew ?_ | refine blk_alloc ?_ _)); refine blk_far ?_ NB233_255.out _; (with_reducible repeat (first | refine blk_drewN ?_ _ | refine blk_drew ?_ | refine blk_alloc ?_ _)); refine blk_far ?_ NB233_255.out _; (with_reducible repeat (first | refine blk_drewN ?_ _ | refine blk_drew ?_ | refine blk_alloc ?_ _)); refine blk_far ?_ NB233_255.out _; (with_reducible repeat (first | refine blk_drewN ?_ _ | refine blk_drew ?_ | refine blk_alloc ?_ _)); refine blk_far ?_ NB233_255.out _; (with_reducible repeat (first | refine blk_drewN ?_ _ | refine blk_drew ?_ | refine blk_alloc ?_ _)); exact BK233.out⟩, ⟨by (with_reducible repeat (first | refine blk_drewN ?_ _ | refine blk_drew ?_ | refine blk_alloc ?_ _)); refine blk_far ?_ NB246_255.out _; (with_reducible repeat (first | refine blk_drewN ?_ _ | refine blk_drew ?_ | refine blk_alloc ?_ _)); refine blk_far ?_ NB246_255.out _; (with_reducible repeat (first | refine blk_drewN ?_ _ | refine blk_drew ?_ | refine blk_alloc ?_ _)); refine blk_far ?_ NB246_255.out _; (with_reducible repeat (first | refine blk_drewN ?_ _ | refine blk_drew ?_ | refine blk_alloc ?_ _)); refine blk_far ?_ NB246_255.out _; (with_reducible repeat (first | refine blk_drewN ?_ _ | refine blk_drew ?_ | refine blk_alloc ?_ _)); exact BK246.out⟩, ⟨by (with_reducible repeat (first | refine blk_drewN ?_ _ | refine blk_drew ?_ | refine blk_alloc ?_ _)); refine blk_put (cs := #[.bool t247, .int .i64 t248, .string t249, .slice none 0 0]) ?_ 3 _ rfl; (with_reducible repeat (first | refine blk_drewN ?_ _ | refine blk_drew ?_ | refine blk_alloc ?_ _)); refine blk_put (cs := #[.bool t247, .int .i64 t248, .string (⟨#[]⟩ : ByteArray), .slice none 0 0]) ?_ 2 _ rfl; (with_reducible repeat (first | refine blk_drewN ?_ _ | refine blk_drew ?_ | refine blk_alloc ?_ _)); refine blk_put (cs := #[.bool t247, .int .i64 0, .string (⟨#[]⟩ : ByteArray), .slice none 0 0]) ?_ 1 _ rfl; (with_reducible repeat (first | refine blk_drewN ?_ _ | refine blk_drew ?_ | refine blk_alloc ?_ _)); refine blk_put (cs := #[.bool false, .int .i64 0, .string (⟨#[]⟩ : ByteArray), .slice none 0 0]) ?_ 0 _ rfl; (with_reducible repeat (first | refine blk_drewN ?_ _ | refine blk_drew ?_ | refine blk_alloc ?_ _)); exact BK255.out⟩, ⟨by repeat (first | (with_reducible first | exact HB.out | apply below_alloc | apply pw_below_drewN | apply below_drew1 | refine below_set ?_ GE233.out | refine below_set ?_ GE246.out | refine below_set ?_ GE255.out) | exact HB.out)⟩⟩
              case rest =>
                clear HC19
                try clear c1
                try clear c2
                try clear p2
                try clear c3
                try clear c4
                try clear c5
                try clear c12
                try clear c13
                try clear c14
                try clear c15
                try clear c15b0
                try clear c15b1
                try clear c17
                try clear c17b0
                try clear c17b1
                try clear c17b2
                try clear c24
                try clear c29
                try clear c30
                try clear c33
                try clear c33b0
                try clear c33b1
                try clear c34
                try clear c34b0
                try clear c34b1
                try clear c35
                try clear c35b0
                try clear c35b1
                try clear c36
                try clear c37
                try clear c39
                try clear c40
                try clear c42
                try clear c43
                try clear c48
                try clear c49
                try clear c51
                try clear hcz10_0
                try clear hcz10_1
                try clear hcz10_2
                try clear hcz10_3
                try clear hcz20_0
                try clear hcz20_1
                try clear hcz20_2
                try clear hcz20_3
                try clear hcz25_0
                try clear hcz25_1
                try clear hcz25_2
                try clear hcz25_3
                try clear hcz31_0
                try clear hcz31_1
                try clear hcz31_2
                try clear hcz31_3
                try clear hcz41_0
                try clear hcz41_1
                try clear hcz41_2
                try clear hcz41_3
                try clear hcz43_0
                try clear hcz43_1
                try clear hcz43_2
                try clear hcz43_3
                try clear hcz45_0
                try clear hcz45_1
                try clear hcz45_2
                try clear hcz45_3
                try clear hcz46_0
                try clear hcz46_1
                try clear hcz46_2
                try clear hcz46_3
                try clear hcz50_0
                try clear hcz50_1
                try clear hcz50_2
                try clear hcz50_3
                try clear hcz52_0
                try clear hcz52_1
                try clear hcz52_2
                try clear hcz52_3
                try clear hfz10_0
                try clear hfz10_1
                try clear hfz10_2
                try clear hfz10_3
                try clear hfz20_0
                try clear hfz20_1
                try clear hfz20_2
                try clear hfz20_3
                try clear hfz25_0
                try clear hfz25_1
                try clear hfz25_2
                try clear hfz25_3
                try clear hfz31_0
                try clear hfz31_1
                try clear hfz31_2
                try clear hfz31_3
                try clear hfz41_0
                try clear hfz41_1
                try clear hfz41_2
                try clear hfz41_3
                try clear hfz43_0
                try clear hfz43_1
                try clear hfz43_2
                try clear hfz43_3
                try clear hfz45_0
                try clear hfz45_1
                try clear hfz45_2
                try clear hfz45_3
                try clear hfz46_0
                try clear hfz46_1
                try clear hfz46_2
                try clear hfz46_3
                try clear hfz50_0
                try clear hfz50_1
                try clear hfz50_2
                try clear hfz50_3
                try clear hfz52_0
                try clear hfz52_1
                try clear hfz52_2
                try clear hfz52_3
                try clear p2
                obtain ⟨kq, x83_18, rfl, HA, HJ18, HO_247003, HO_256003, BK233, BK246, BK255, HB⟩ := hcut
                cases kq with
                | zero => exact absurd HA.out (by simp [legatelaw01_WireBack.j1])
                | succ kj18 =>
                  have H := HA.out
                  clear HA
                  simp only [legatelaw01_WireBack.j1] at H
                  by_cases c54 : x83_18 = true
                  · subst c54
                    have H1 : (some false) = some r := by rw [if_pos rfl] at H; exact H
                    clear H
                    have H := H1
                    clear H1
                    obtain rfl := Option.some.inj H
                    go_wp2
                    go_ret
                    exact ⟨by first | rfl | (simp [errW_none, errW_some] <;> rfl) | (simp [*, errW_none, errW_some] <;> rfl), by repeat (first | (with_reducible first | exact HB.out | apply below_alloc | apply pw_below_drewN | apply below_drew1 | refine below_set ?_ GE233.out | refine below_set ?_ GE246.out | refine below_set ?_ GE255.out) | exact HB.out)⟩
                  · replace c54 := Bool.eq_false_iff.mpr c54
                    subst c54
                    have H1 : (if a2 < 0 then (some true) else (if a2 ≥ (t236.size : Int) then (some true) else (if 0 ≤ a2 then (if a2 ≤ (t236.size : Int) then ((wire_Get.f kj18 (t236.extract 0 (a2 : Int).toNat)).bind fun bt258 => (if true = true then (some (bt258.2.2.2.2 == 10)) else (some false))) else (none)) else (none)))) = some r := by rw [if_neg (show ¬ (false = true) by decide)] at H; exact H
                    clear H
                    have H := H1
                    clear H1
                    by_cases c55 : a2 < 0
                    · rw [if_pos c55] at H
                      have c55b0 : decide (a2 < 0) = true := decide_eq_true c55
                      clear c55
                      obtain rfl := Option.some.inj H
                      go_wp2
                      go_ret
                      exact ⟨by first | rfl | (simp [errW_none, errW_some] <;> rfl) | (simp [*, errW_none, errW_some] <;> rfl), by repeat (first | (with_reducible first | exact HB.out | apply below_alloc | apply pw_below_drewN | apply below_drew1 | refine below_set ?_ GE233.out | refine below_set ?_ GE246.out | refine below_set ?_ GE255.out) | exact HB.out)⟩
                    · rw [if_neg c55] at H
                      have c55b0 : decide (a2 < 0) = false := decide_eq_false c55
                      clear c55
                      by_cases c56 : a2 ≥ (t236.size : Int)
                      · rw [if_pos c56] at H
                        have c56b0 : decide ((t236.size : Int) ≤ a2) = true := decide_eq_true c56
                        clear c56
                        obtain rfl := Option.some.inj H
                        go_wp2
                        go_ret
                        exact ⟨by first | rfl | (simp [errW_none, errW_some] <;> rfl) | (simp [*, errW_none, errW_some] <;> rfl), by repeat (first | (with_reducible first | exact HB.out | apply below_alloc | apply pw_below_drewN | apply below_drew1 | refine below_set ?_ GE233.out | refine below_set ?_ GE246.out | refine below_set ?_ GE255.out) | exact HB.out)⟩
                      · rw [if_neg c56] at H
                        have c56b0 : decide ((t236.size : Int) ≤ a2) = false := decide_eq_false c56
                        clear c56
                        by_cases c57 : 0 ≤ a2
                        · rw [if_pos c57] at H
                          have c57b0 := eq_true c57
                          have c57b1 : decide (0 ≤ a2) = true := decide_eq_true c57
                          clear c57
                          by_cases c58 : a2 ≤ (t236.size : Int)
                          · rw [if_pos c58] at H
                            have c58b0 := eq_true c58
                            have c58b1 : decide (a2 ≤ (t236.size : Int)) = true := decide_eq_true c58
                            clear c58
                            replace H := Option.bind_eq_some_iff.mp H
                            obtain ⟨⟨t258, t259, t260, t261, t264⟩, A590, H⟩ := H
                            replace H : (if true = true then (some (t264 == 10)) else (some false)) = some r := H
                            have A59 := Aside0.mk A590
                            clear A590
                            by_cases c60 : true = true
                            · clear c60
                              have H1 : (some (t264 == 10)) = some r := by first | (rw [if_pos rfl] at H; exact H) | (rw [if_pos trivial] at H; exact H) | simpa using H
                              clear H
                              have H := H1
                              clear H1
                              obtain rfl := Option.some.inj H
                              go_wp2_with (first | ((with_reducible refine gate_callee (f := 42) rfl ?_); refine goesL_ (some 97) rfl rfl Try.func42 (by kernel_rfl) rfl #[.string (t236.extract 0 (a2 : Int).toNat)] rfl (by (try simp only [List.map_toArray, List.map_cons, List.map_nil]); first | done | rfl | (simp only [List.length_drop, List.length_take]; rfl)) ?_; (with_reducible refine (wire_Get.calls kj18 (t236.extract 0 (a2 : Int).toNat) t258 t259 t260 t261 t264 _ A59.out).mono ?_); rintro e w61 ⟨v262, rfl, ho0, hb⟩; refine ⟨_, rfl, ?_⟩; have n0_ := Aside0.mk (Kd.R_elder' (by (with_reducible repeat (first | apply Kd.R_alloc | apply Kd.R_drewN | apply Kd.R_drew)); exact HO_247003.out) (Kd.R_base ho0) hb); have n1_ := Aside0.mk (Kd.R_elder' (by (with_reducible repeat (first | apply Kd.R_alloc | apply Kd.R_drewN | apply Kd.R_drew)); exact HO_256003.out) (Kd.R_base ho0) hb); have n2_ := Aside0.mk (Kd.R_lower (Kd.R_newB (Kd.R_newB (Kd.R_newB (Kd.R_new' (Kd.R_new' ho0 (Kd.R_lt (by (with_reducible repeat (first | apply Kd.R_alloc | apply Kd.R_drewN | apply Kd.R_drew)); exact HO_247003.out))) (Kd.R_lt (by (with_reducible repeat (first | apply Kd.R_alloc | apply Kd.R_drewN | apply Kd.R_drew)); exact HO_256003.out))) (g := gb233) (o := .cells #[.bool a0_0, .int .i64 a0_1, .string a0_2, .slice A0_3 l0_3.length c0_3] 44 (0, 0)) (by (with_reducible repeat (first | refine blk_drewN ?_ _ | refine blk_drew ?_ | refine blk_alloc ?_ _)); exact BK233.out)) (g := gb246) (o := .cells #[.bool t239, .int .i64 t240, .string t241, .slice Ao26 t242.length co26] 44 (0, 0)) (by (with_reducible repeat (first | refine blk_drewN ?_ _ | refine blk_drew ?_ | refine blk_alloc ?_ _)); exact BK246.out)) (g := gb255) (o := .cells #[.bool t247, .int .i64 t248, .string t249, .slice Ao32 t250.length co32] 44 (0, 0)) (by (with_reducible repeat (first | refine blk_drewN ?_ _ | refine blk_drew ?_ | refine blk_alloc ?_ _)); exact BK255.out)) (below_size (by repeat (first | (with_reducible first | exact HB.out | apply below_alloc | apply pw_below_drewN | apply below_drew1 | refine below_set ?_ GE233.out | refine below_set ?_ GE246.out | refine below_set ?_ GE255.out) | exact HB.out)))); have n3_ := Aside0.mk (blk_below (g := gb233) (o := .cells #[.bool a0_0, .int .i64 a0_1, .string a0_2, .slice A0_3 l0_3.length c0_3] 44 (0, 0)) (by (with_reducible repeat (first | refine blk_drewN ?_ _ | refine blk_drew ?_ | refine blk_alloc ?_ _)); exact BK233.out) hb); have n4_ := Aside0.mk (blk_below (g := gb246) (o := .cells #[.bool t239, .int .i64 t240, .string t241, .slice Ao26 t242.length co26] 44 (0, 0)) (by (with_reducible repeat (first | refine blk_drewN ?_ _ | refine blk_drew ?_ | refine blk_alloc ?_ _)); exact BK246.out) hb); have n5_ := Aside0.mk (blk_below (g := gb255) (o := .cells #[.bool t247, .int .i64 t248, .string t249, .slice Ao32 t250.length co32] 44 (0, 0)) (by (with_reducible repeat (first | refine blk_drewN ?_ _ | refine blk_drew ?_ | refine blk_alloc ?_ _)); exact BK255.out) hb); have n6_ := Aside0.mk (below_step (by repeat (first | (with_reducible first | exact HB.out | apply below_alloc | apply pw_below_drewN | apply below_drew1 | refine below_set ?_ GE233.out | refine below_set ?_ GE246.out | refine below_set ?_ GE255.out) | exact HB.out)) hb); clear HO_247003; clear HO_256003; clear BK233; clear BK246; clear BK255; clear HB; have HO_247003 := n0_; have HO_256003 := n1_; have HO263 := n2_; have BK233 := n3_; have BK246 := n4_; have BK255 := n5_; have HB := n6_; clear n0_ n1_ n2_ n3_ n4_ n5_ n6_; (try clear hb); (try clear hb2); (try clear hk); (try clear hi); (try clear ho0)) | ((with_reducible refine gate_dst (N := 16) rfl ?_); (try (refine gate_guard (by rfl) ?_; dsimp only)); refine box_event ?hg (N := 16) ?hd (cs := #[.bool false, .int .i64 0, .string (⟨#[]⟩ : ByteArray), .slice none 0 0]) (t := 44) ?hr ?_; (case hd => rfl); (case hg => rfl); (case hr => first | (go_simp; done) | (go_simp; rfl)); intro gb265 hg w62 hbox hb; have n0_ := Aside0.mk (Kd.R_below (Kd.R_elderB (by (with_reducible repeat (first | apply Kd.R_alloc | apply Kd.R_drewN | apply Kd.R_drew)); exact HO_247003.out) gb265 (Nat.le_of_eq hg.symm)) hb); have n1_ := Aside0.mk (Kd.R_below (Kd.R_elderB (by (with_reducible repeat (first | apply Kd.R_alloc | apply Kd.R_drewN | apply Kd.R_drew)); exact HO_256003.out) gb265 (Nat.le_of_eq hg.symm)) hb); have n2_ := Aside0.mk (Kd.R_below (Kd.R_elderB (by (with_reducible repeat (first | apply Kd.R_alloc | apply Kd.R_drewN | apply Kd.R_drew)); exact HO263.out) gb265 (Nat.le_of_eq hg.symm)) hb); have n3_ := Aside0.mk (blk_below (g := gb233) (o := .cells #[.bool a0_0, .int .i64 a0_1, .string a0_2, .slice A0_3 l0_3.length c0_3] 44 (0, 0)) (by (with_reducible repeat (first | refine blk_drewN ?_ _ | refine blk_drew ?_ | refine blk_alloc ?_ _)); exact BK233.out) hb); have n4_ := Aside0.mk (blk_below (g := gb246) (o := .cells #[.bool t239, .int .i64 t240, .string t241, .slice Ao26 t242.length co26] 44 (0, 0)) (by (with_reducible repeat (first | refine blk_drewN ?_ _ | refine blk_drew ?_ | refine blk_alloc ?_ _)); exact BK246.out) hb); have n5_ := Aside0.mk (blk_below (g := gb255) (o := .cells #[.bool t247, .int .i64 t248, .string t249, .slice Ao32 t250.length co32] 44 (0, 0)) (by (with_reducible repeat (first | refine blk_drewN ?_ _ | refine blk_drew ?_ | refine blk_alloc ?_ _)); exact BK255.out) hb); have n6_ := Aside0.mk (below_step (by repeat (first | (with_reducible first | exact HB.out | apply below_alloc | apply pw_below_drewN | apply below_drew1 | refine below_set ?_ GE233.out | refine below_set ?_ GE246.out | refine below_set ?_ GE255.out) | exact HB.out)) hb); have n7_ := Aside0.mk (hbox); have n8_ := Aside0.mk ((by rw [hg]; exact (below_size (by repeat (first | (with_reducible first | exact HB.out | apply below_alloc | apply pw_below_drewN | apply below_drew1 | refine below_set ?_ GE233.out | refine below_set ?_ GE246.out | refine below_set ?_ GE255.out) | exact HB.out))) : w.heap.size ≤ gb265)); have n9_ := Aside0.mk ((by rw [hg]; exact (below_size (by repeat (first | (with_reducible first | exact HB.out | apply below_alloc | apply pw_below_drewN | apply below_drew1 | refine below_set ?_ GE233.out | refine below_set ?_ GE246.out | refine below_set ?_ GE255.out) | exact HB.out))) : w.heap.size ≤ gb265)); have n10_ := Aside0.mk ((by rw [hg]; exact Nat.ne_of_lt (blk_lt (g := gb233) (o := .cells #[.bool a0_0, .int .i64 a0_1, .string a0_2, .slice A0_3 l0_3.length c0_3] 44 (0, 0)) (by (with_reducible repeat (first | refine blk_drewN ?_ _ | refine blk_drew ?_ | refine blk_alloc ?_ _)); exact BK233.out)) : gb233 ≠ gb265)); have n11_ := Aside0.mk ((by rw [hg]; exact Nat.ne_of_gt (blk_lt (g := gb233) (o := .cells #[.bool a0_0, .int .i64 a0_1, .string a0_2, .slice A0_3 l0_3.length c0_3] 44 (0, 0)) (by (with_reducible repeat (first | refine blk_drewN ?_ _ | refine blk_drew ?_ | refine blk_alloc ?_ _)); exact BK233.out)) : gb265 ≠ gb233)); have n12_ := Aside0.mk ((by rw [hg]; exact Nat.ne_of_lt (blk_lt (g := gb246) (o := .cells #[.bool t239, .int .i64 t240, .string t241, .slice Ao26 t242.length co26] 44 (0, 0)) (by (with_reducible repeat (first | refine blk_drewN ?_ _ | refine blk_drew ?_ | refine blk_alloc ?_ _)); exact BK246.out)) : gb246 ≠ gb265)); have n13_ := Aside0.mk ((by rw [hg]; exact Nat.ne_of_gt (blk_lt (g := gb246) (o := .cells #[.bool t239, .int .i64 t240, .string t241, .slice Ao26 t242.length co26] 44 (0, 0)) (by (with_reducible repeat (first | refine blk_drewN ?_ _ | refine blk_drew ?_ | refine blk_alloc ?_ _)); exact BK246.out)) : gb265 ≠ gb246)); have n14_ := Aside0.mk ((by rw [hg]; exact Nat.ne_of_lt (blk_lt (g := gb255) (o := .cells #[.bool t247, .int .i64 t248, .string t249, .slice Ao32 t250.length co32] 44 (0, 0)) (by (with_reducible repeat (first | refine blk_drewN ?_ _ | refine blk_drew ?_ | refine blk_alloc ?_ _)); exact BK255.out)) : gb255 ≠ gb265)); have n15_ := Aside0.mk ((by rw [hg]; exact Nat.ne_of_gt (blk_lt (g := gb255) (o := .cells #[.bool t247, .int .i64 t248, .string t249, .slice Ao32 t250.length co32] 44 (0, 0)) (by (with_reducible repeat (first | refine blk_drewN ?_ _ | refine blk_drew ?_ | refine blk_alloc ?_ _)); exact BK255.out)) : gb265 ≠ gb255)); clear HO_247003; clear HO_256003; clear HO263; clear BK233; clear BK246; clear BK255; clear HB; have HO_247003 := n0_; have HO_256003 := n1_; have HO263 := n2_; have BK233 := n3_; have BK246 := n4_; have BK255 := n5_; have HB := n6_; have BK265 := n7_; have GW265 := n8_; have GE265 := n9_; have NB233_265 := n10_; have NB265_233 := n11_; have NB246_265 := n12_; have NB265_246 := n13_; have NB255_265 := n14_; have NB265_255 := n15_; clear n0_ n1_ n2_ n3_ n4_ n5_ n6_ n7_ n8_ n9_ n10_ n11_ n12_ n13_ n14_ n15_; clear hb hbox hg; have hnb63 := NB265_233.out; have hnc63 := NB233_265.out; have hnb64 := NB265_246.out; have hnc64 := NB246_265.out; have hnb65 := NB265_255.out; have hnc65 := NB255_265.out; have hcz66_0 : w62.cell? ⟨gb265, 0, none⟩ = some (.bool false) := (blk_cell BK265.out 0).trans rfl; have hcz66_1 : w62.cell? ⟨gb265, 1, none⟩ = some (.int .i64 0) := (blk_cell BK265.out 1).trans rfl; have hcz66_2 : w62.cell? ⟨gb265, 2, none⟩ = some (.string (⟨#[]⟩ : ByteArray)) := (blk_cell BK265.out 2).trans rfl; have hcz66_3 : w62.cell? ⟨gb265, 3, none⟩ = some (.slice none 0 0) := (blk_cell BK265.out 3).trans rfl; have hfz66_0 := blk_frozen BK265.out 0; have hfz66_1 := blk_frozen BK265.out 1; have hfz66_2 := blk_frozen BK265.out 2; have hfz66_3 := blk_frozen BK265.out 3; obtain ⟨Ao67, co67, eo67⟩ := Kd.R_slice HO263.out; subst eo67))
                              go_ret
                              exact ⟨by first | rfl | (simp [errW_none, errW_some] <;> rfl) | (simp [*, errW_none, errW_some] <;> rfl), by repeat (first | (with_reducible first | exact HB.out | apply below_alloc | apply pw_below_drewN | apply below_drew1 | refine below_set ?_ GE233.out | refine below_set ?_ GE246.out | refine below_set ?_ GE255.out | refine below_set ?_ GE265.out) | exact HB.out)⟩
                            · exact absurd rfl c60
                          · rw [if_neg c58] at H
                            exact absurd H (by simp)
                        · rw [if_neg c57] at H
                          exact absurd H (by simp)
            · rw [if_neg c17] at H
              exact absurd H (by simp)
          · rw [if_neg c15] at H
            have c15b0 : (t237 == 0) = false := beq_eq_false_iff_ne.mpr c15
            have c15b1 : (t237 != 0) = true := bne_iff_ne.mpr c15
            by_cases c75 : true = true
            · clear c75
              have H1 : (if t236.toList = ([] : List UInt8) then ((wire_Valid.f kj6 a0_0 a0_1 a0_2 l0_3).bind fun t238 => (some (!t238))) else (some false)) = some r := by first | (rw [if_pos rfl] at H; exact H) | (rw [if_pos trivial] at H; exact H) | simpa using H
              clear H
              have H := H1
              clear H1
              by_cases c76 : t236.toList = ([] : List UInt8)
              · rw [if_pos c76] at H
                have c76b0 : (t236.toList == ([] : List UInt8)) = true := beq_iff_eq.mpr c76
                have c76b1 : (t236.toList != ([] : List UInt8)) = false := bne_eq_false_iff_eq.mpr c76
                clear c76
                replace H := Option.bind_eq_some_iff.mp H
                obtain ⟨t238, A770, H⟩ := H
                replace H : (some (!t238)) = some r := H
                have A77 := Aside0.mk A770
                clear A770
                obtain rfl := Option.some.inj H
                have hcz78_0 : wc.cell? ⟨gb233, 0, none⟩ = some (.bool a0_0) := (blk_cell BK233.out 0).trans rfl
                have hcz78_1 : wc.cell? ⟨gb233, 1, none⟩ = some (.int .i64 a0_1) := (blk_cell BK233.out 1).trans rfl
                have hcz78_2 : wc.cell? ⟨gb233, 2, none⟩ = some (.string a0_2) := (blk_cell BK233.out 2).trans rfl
                have hcz78_3 : wc.cell? ⟨gb233, 3, none⟩ = some (.slice A0_3 l0_3.length c0_3) := (blk_cell BK233.out 3).trans rfl
                have hfz78_0 := blk_frozen BK233.out 0
                have hfz78_1 := blk_frozen BK233.out 1
                have hfz78_2 := blk_frozen BK233.out 2
                have hfz78_3 := blk_frozen BK233.out 3
                go_wp2_with (first | ((with_reducible refine gate_callee (f := 36) rfl ?_); refine goesL_ (some 32) rfl rfl Try.func36 (by kernel_rfl) rfl #[.agg #[.bool a0_0, .int .i64 a0_1, .string a0_2, .slice A0_3 l0_3.length c0_3]] rfl (by (try simp only [List.map_toArray, List.map_cons, List.map_nil]); first | done | rfl | (simp only [List.length_drop, List.length_take]; rfl)) ?_; (with_reducible refine (wire_Put.calls a0_0 a0_1 a0_2 _ _ l0_3 t236 t237 _ ?side1 ?side2 A14.out).mono ?_); (case side1 => repeat (first | exact (Kd.C_below HR0_3.out HB.out) | (with_reducible refine Kd.C_alloc ?_ _) | (with_reducible refine Kd.C_drewN ?_ _) | (with_reducible refine Kd.C_drew ?_))); (case side2 => exact HC0_3.out); rintro e w79 ⟨rfl, hb⟩; refine ⟨_, rfl, ?_⟩; have n0_ := Aside0.mk (blk_below (g := gb233) (o := .cells #[.bool a0_0, .int .i64 a0_1, .string a0_2, .slice A0_3 l0_3.length c0_3] 44 (0, 0)) (by (with_reducible repeat (first | refine blk_drewN ?_ _ | refine blk_drew ?_ | refine blk_alloc ?_ _)); exact BK233.out) hb); have n1_ := Aside0.mk (below_step (by repeat (first | (with_reducible first | exact HB.out | apply below_alloc | apply pw_below_drewN | apply below_drew1 | refine below_set ?_ GE233.out) | exact HB.out)) hb); clear BK233; clear HB; have BK233 := n0_; have HB := n1_; clear n0_ n1_; (try clear hb); (try clear hb2); (try clear hk); (try clear hi); have hcz80_0 : w79.cell? ⟨gb233, 0, none⟩ = some (.bool a0_0) := (blk_cell BK233.out 0).trans rfl; have hcz80_1 : w79.cell? ⟨gb233, 1, none⟩ = some (.int .i64 a0_1) := (blk_cell BK233.out 1).trans rfl; have hcz80_2 : w79.cell? ⟨gb233, 2, none⟩ = some (.string a0_2) := (blk_cell BK233.out 2).trans rfl; have hcz80_3 : w79.cell? ⟨gb233, 3, none⟩ = some (.slice A0_3 l0_3.length c0_3) := (blk_cell BK233.out 3).trans rfl; have hfz80_0 := blk_frozen BK233.out 0; have hfz80_1 := blk_frozen BK233.out 1; have hfz80_2 := blk_frozen BK233.out 2; have hfz80_3 := blk_frozen BK233.out 3) | (go_at_call 41; (with_reducible refine (wire_Valid.calls kj6 a0_0 a0_1 a0_2 _ _ l0_3 t238 _ ?side1 ?side2 A77.out).mono ?_); (case side1 => repeat (first | exact (Kd.C_below HR0_3.out HB.out) | (with_reducible refine Kd.C_alloc ?_ _) | (with_reducible refine Kd.C_drewN ?_ _) | (with_reducible refine Kd.C_drew ?_))); (case side2 => exact HC0_3.out); rintro e w81 ⟨rfl, hb⟩; have n0_ := Aside0.mk (blk_below (g := gb233) (o := .cells #[.bool a0_0, .int .i64 a0_1, .string a0_2, .slice A0_3 l0_3.length c0_3] 44 (0, 0)) (by (with_reducible repeat (first | refine blk_drewN ?_ _ | refine blk_drew ?_ | refine blk_alloc ?_ _)); exact BK233.out) hb); have n1_ := Aside0.mk (below_step (by repeat (first | (with_reducible first | exact HB.out | apply below_alloc | apply pw_below_drewN | apply below_drew1 | refine below_set ?_ GE233.out) | exact HB.out)) hb); clear BK233; clear HB; have BK233 := n0_; have HB := n1_; clear n0_ n1_; (try clear hb); (try clear hb2); (try clear hk); (try clear hi)))
                go_ret
                exact ⟨by first | rfl | (simp [errW_none, errW_some] <;> rfl) | (simp [*, errW_none, errW_some] <;> rfl), by repeat (first | (with_reducible first | exact HB.out | apply below_alloc | apply pw_below_drewN | apply below_drew1 | refine below_set ?_ GE233.out) | exact HB.out)⟩
              · rw [if_neg c76] at H
                have c76b0 : (t236.toList == ([] : List UInt8)) = false := beq_eq_false_iff_ne.mpr c76
                have c76b1 : (t236.toList != ([] : List UInt8)) = true := bne_iff_ne.mpr c76
                obtain rfl := Option.some.inj H
                have hcz82_0 : wc.cell? ⟨gb233, 0, none⟩ = some (.bool a0_0) := (blk_cell BK233.out 0).trans rfl
                have hcz82_1 : wc.cell? ⟨gb233, 1, none⟩ = some (.int .i64 a0_1) := (blk_cell BK233.out 1).trans rfl
                have hcz82_2 : wc.cell? ⟨gb233, 2, none⟩ = some (.string a0_2) := (blk_cell BK233.out 2).trans rfl
                have hcz82_3 : wc.cell? ⟨gb233, 3, none⟩ = some (.slice A0_3 l0_3.length c0_3) := (blk_cell BK233.out 3).trans rfl
                have hfz82_0 := blk_frozen BK233.out 0
                have hfz82_1 := blk_frozen BK233.out 1
                have hfz82_2 := blk_frozen BK233.out 2
                have hfz82_3 := blk_frozen BK233.out 3
                go_wp2_with (first | ((with_reducible refine gate_callee (f := 36) rfl ?_); refine goesL_ (some 32) rfl rfl Try.func36 (by kernel_rfl) rfl #[.agg #[.bool a0_0, .int .i64 a0_1, .string a0_2, .slice A0_3 l0_3.length c0_3]] rfl (by (try simp only [List.map_toArray, List.map_cons, List.map_nil]); first | done | rfl | (simp only [List.length_drop, List.length_take]; rfl)) ?_; (with_reducible refine (wire_Put.calls a0_0 a0_1 a0_2 _ _ l0_3 t236 t237 _ ?side1 ?side2 A14.out).mono ?_); (case side1 => repeat (first | exact (Kd.C_below HR0_3.out HB.out) | (with_reducible refine Kd.C_alloc ?_ _) | (with_reducible refine Kd.C_drewN ?_ _) | (with_reducible refine Kd.C_drew ?_))); (case side2 => exact HC0_3.out); rintro e w83 ⟨rfl, hb⟩; refine ⟨_, rfl, ?_⟩; have n0_ := Aside0.mk (blk_below (g := gb233) (o := .cells #[.bool a0_0, .int .i64 a0_1, .string a0_2, .slice A0_3 l0_3.length c0_3] 44 (0, 0)) (by (with_reducible repeat (first | refine blk_drewN ?_ _ | refine blk_drew ?_ | refine blk_alloc ?_ _)); exact BK233.out) hb); have n1_ := Aside0.mk (below_step (by repeat (first | (with_reducible first | exact HB.out | apply below_alloc | apply pw_below_drewN | apply below_drew1 | refine below_set ?_ GE233.out) | exact HB.out)) hb); clear BK233; clear HB; have BK233 := n0_; have HB := n1_; clear n0_ n1_; (try clear hb); (try clear hb2); (try clear hk); (try clear hi)))
                go_ret
                exact ⟨by first | rfl | (simp [errW_none, errW_some] <;> rfl) | (simp [*, errW_none, errW_some] <;> rfl), by repeat (first | (with_reducible first | exact HB.out | apply below_alloc | apply pw_below_drewN | apply below_drew1 | refine below_set ?_ GE233.out) | exact HB.out)⟩
            · exact absurd rfl c75
  · replace c5 := Bool.eq_false_iff.mpr c5
    subst c5
    have H1 : (some false) = some r := by rw [if_neg (show ¬ (false = true) by decide)] at H; exact H
    clear H
    have H := H1
    clear H1
    obtain rfl := Option.some.inj H
    go_enter Try.func14, Try.ntmps14
    go_wp2_with (first | ((with_reducible refine gate_dst (N := 3) rfl ?_); (try (refine gate_guard (by rfl) ?_; dsimp only)); refine box_event ?hg (N := 3) ?hd (cs := #[.bool a0_0, .int .i64 a0_1, .string a0_2, .slice A0_3 l0_3.length c0_3]) (t := 44) ?hr ?_; (case hd => rfl); (case hg => rfl); (case hr => first | (go_simp; done) | (go_simp; rfl)); intro gb233 hg w86 hbox hb; have n0_ := Aside0.mk (below_step (by repeat (first | (with_reducible first | exact HB.out | apply below_alloc | apply pw_below_drewN | apply below_drew1) | exact HB.out)) hb); have n1_ := Aside0.mk (hbox); have n2_ := Aside0.mk ((by rw [hg]; exact (below_size (by repeat (first | (with_reducible first | exact HB.out | apply below_alloc | apply pw_below_drewN | apply below_drew1) | exact HB.out))) : w.heap.size ≤ gb233)); have n3_ := Aside0.mk ((by rw [hg]; exact (below_size (by repeat (first | (with_reducible first | exact HB.out | apply below_alloc | apply pw_below_drewN | apply below_drew1) | exact HB.out))) : w.heap.size ≤ gb233)); clear HB; have HB := n0_; have BK233 := n1_; have GW233 := n2_; have GE233 := n3_; clear n0_ n1_ n2_ n3_; clear hb hbox hg) | ((with_reducible refine gate_callee (f := 34) rfl ?_); refine goesL_ (some 18) rfl rfl Try.func34 (by kernel_rfl) rfl #[] rfl (by (try simp only [List.map_toArray, List.map_cons, List.map_nil]); first | done | rfl | (simp only [List.length_drop, List.length_take]; rfl)) ?_; (with_reducible refine (legatelaw01_works.calls k  false _ A4.out).mono ?_); rintro e w87 ⟨rfl, hb⟩; refine ⟨_, rfl, ?_⟩; have n0_ := Aside0.mk (blk_below (g := gb233) (o := .cells #[.bool a0_0, .int .i64 a0_1, .string a0_2, .slice A0_3 l0_3.length c0_3] 44 (0, 0)) (by (with_reducible repeat (first | refine blk_drewN ?_ _ | refine blk_drew ?_ | refine blk_alloc ?_ _)); exact BK233.out) hb); have n1_ := Aside0.mk (below_step (by repeat (first | (with_reducible first | exact HB.out | apply below_alloc | apply pw_below_drewN | apply below_drew1 | refine below_set ?_ GE233.out) | exact HB.out)) hb); clear BK233; clear HB; have BK233 := n0_; have HB := n1_; clear n0_ n1_; (try clear hb); (try clear hb2); (try clear hk); (try clear hi)))
    go_ret
    exact ⟨by first | rfl | (simp [errW_none, errW_some] <;> rfl) | (simp [*, errW_none, errW_some] <;> rfl), by repeat (first | (with_reducible first | exact HB.out | apply below_alloc | apply pw_below_drewN | apply below_drew1 | refine below_set ?_ GE233.out) | exact HB.out)⟩

end Go.Proofs.Ytkgijkfcmbpgpaa.PWir
end
