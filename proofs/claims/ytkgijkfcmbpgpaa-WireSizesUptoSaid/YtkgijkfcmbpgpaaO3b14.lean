/- Joined by wip/pack.py out of: PWirx12; what nothing here names is left out. -/
import Derived.ArgAppend
import Derived.Below
import Derived.BigQuiet
import Derived.Deep.AppendLies
import Derived.Deep.CutBlock
import Derived.Deep.DeepCutAuto
import Derived.Deep.Draws
import Derived.Deep.LoopGhost
import Derived.Deep.OwnRows
import Derived.Deep.QuietTactic
import Derived.Deep.RegionHeld3
import Derived.KernelRfl
import Derived.Laws.BitsLemmas
import Derived.Laws.BytesArg
import Derived.Laws.IdiomCopy
import Derived.Laws.MakeOwn
import Derived.Laws.OwnMore
import Derived.Laws.Rows
import Derived.Laws.Slices
import Derived.Laws.StructEq
import Derived.Lib.AppendStr
import Derived.Lib.ConvBytes
import Derived.Maps.AppendAt
import Derived.OrdersHeld
import Derived.OwnWalk
import Derived.RowKit
import Derived.RowKit3
import Derived.Shelf.Strings.Builder1
import Derived.Shelf.Strings.BuilderF
import Derived.Shelf.Strings.BuilderK
import Derived.Tactics
import Derived.WalkKit
import Derived.WideLaws
import Derived.Test.YtkgijkfcmbpgpaaO3b2
import Derived.Test.YtkgijkfcmbpgpaaO3b3
import Derived.Test.YtkgijkfcmbpgpaaO3b5
import Derived.Test.YtkgijkfcmbpgpaaO3b8
import Derived.Test.YtkgijkfcmbpgpaaO3b9
import Derived.Test.YtkgijkfcmbpgpaaProg
section
namespace Go.Proofs.Ytkgijkfcmbpgpaa.PWir
open Go.RowKit Go.Proofs.YtkgijkfcmbpgpaaW.PrintWords Go.Proofs.YtkgijkfcmbpgpaaW.PrintLast Go.Proofs.YtkgijkfcmbpgpaaW.PrintMore
open Go.Proofs.Ytkgijkfcmbpgpaa.Giv
attribute [local go_sem] max2_int min2_int max_two min_two max_three min_three max_four min_four   -- for this text's walks alone
set_option linter.unusedVariables false
set_option linter.unusedSimpArgs false

/-! ### legatelaw01_WireSizes: function 17 -/
mutual
def legatelaw01_WireSizes.j0 : Nat → Int → Bool → Bool → Bool → Int → ByteArray → List (S44) → Option (Bool)
  | 0, _, _, _, _, _, _, _ => none
  | k + 1, x1, x5, x35, x308000, x308001, x308002, x308003 => if x35 = true then (some x5) else ((wire_Put.f x308000 x308001 x308002 x308003).bind fun bt311 => ((wire_Put.f x308000 x1 x308002 x308003).bind fun bt314 => (legatelaw01_WireSizes.l0 k x1 x5 bt311.1 bt311.2 bt314.1 bt314.2 (x308002.size : Int) 0 x308000 x308001 x308002 x308003)))
def legatelaw01_WireSizes.l0 : Nat → Int → Bool → ByteArray → Int → ByteArray → Int → Int → Int → Bool → Int → ByteArray → List (S44) → Option (Bool)
  | 0, _, _, _, _, _, _, _, _, _, _, _, _ => none
  | k + 1, x1, x5, x7, x8, x10, x11, x12, x13, x308000, x308001, x308002, x308003 => if x13 < (x308003.length : Int) then (if 0 ≤ x13 then ((wire_Put.f ((rd_T44 x308003 x13).f0) ((rd_T44 x308003 x13).f1) ((rd_T44 x308003 x13).f2) ((rd_T44 x308003 x13).f3)).bind fun bt317 => (if bt317.2 = 0 then (legatelaw01_WireSizes.l0 k x1 x5 x7 x8 x10 x11 (wrap64 (x12 + (bt317.1.size : Int))) (wrap64 (x13 + 1)) x308000 x308001 x308002 x308003) else (some false))) else (none)) else (if x12 > 127 then (if x12 > 16383 then (if x5 = true then (if x8 = 0 then (if x11 = 0 then (if (x7.size : Int) = (wrap64 ((1 + 3) + x12)) then (if (x10.size : Int) = (x7.size : Int) then (if 1 ≤ (x7.size : Int) then (if 1 ≤ (x10.size : Int) then (if (x7.extract 1 x7.size).toList = (x10.extract 1 x10.size).toList then (if 0 < (x10.size : Int) then (if 0 < (x7.size : Int) then (some ((wrap64 ((wrap64 (bt x10 0)) - (wrap64 (bt x7 0)))) == (wrap64 (x1 - x308001)))) else (none)) else (none)) else (some false)) else (none)) else (none)) else (some false)) else (some false)) else (some false)) else (some false)) else (some false)) else (if x5 = true then (if x8 = 0 then (if x11 = 0 then (if (x7.size : Int) = (wrap64 ((1 + 2) + x12)) then (if (x10.size : Int) = (x7.size : Int) then (if 1 ≤ (x7.size : Int) then (if 1 ≤ (x10.size : Int) then (if (x7.extract 1 x7.size).toList = (x10.extract 1 x10.size).toList then (if 0 < (x10.size : Int) then (if 0 < (x7.size : Int) then (some ((wrap64 ((wrap64 (bt x10 0)) - (wrap64 (bt x7 0)))) == (wrap64 (x1 - x308001)))) else (none)) else (none)) else (some false)) else (none)) else (none)) else (some false)) else (some false)) else (some false)) else (some false)) else (some false))) else (if x12 > 16383 then (if x5 = true then (if x8 = 0 then (if x11 = 0 then (if (x7.size : Int) = (wrap64 ((1 + 3) + x12)) then (if (x10.size : Int) = (x7.size : Int) then (if 1 ≤ (x7.size : Int) then (if 1 ≤ (x10.size : Int) then (if (x7.extract 1 x7.size).toList = (x10.extract 1 x10.size).toList then (if 0 < (x10.size : Int) then (if 0 < (x7.size : Int) then (some ((wrap64 ((wrap64 (bt x10 0)) - (wrap64 (bt x7 0)))) == (wrap64 (x1 - x308001)))) else (none)) else (none)) else (some false)) else (none)) else (none)) else (some false)) else (some false)) else (some false)) else (some false)) else (some false)) else (if x5 = true then (if x8 = 0 then (if x11 = 0 then (if (x7.size : Int) = (wrap64 ((1 + 1) + x12)) then (if (x10.size : Int) = (x7.size : Int) then (if 1 ≤ (x7.size : Int) then (if 1 ≤ (x10.size : Int) then (if (x7.extract 1 x7.size).toList = (x10.extract 1 x10.size).toList then (if 0 < (x10.size : Int) then (if 0 < (x7.size : Int) then (some ((wrap64 ((wrap64 (bt x10 0)) - (wrap64 (bt x7 0)))) == (wrap64 (x1 - x308001)))) else (none)) else (none)) else (some false)) else (none)) else (none)) else (some false)) else (some false)) else (some false)) else (some false)) else (some false))))
end
def legatelaw01_WireSizes.f (k : Nat) (a0_0 : Bool) (a0_1 : Int) (a0_2 : ByteArray) (l0_3 : List (S44)) (a1 : Int) : Option (Bool) := (legatelaw01_works.f k).bind fun t308 => (if t308 = true then ((legateref01_Large.f k a0_0 a0_1 a0_2 l0_3 2000).bind fun t309 => (if t309 = true then (legatelaw01_WireSizes.j0 k a1 t308 true a0_0 a0_1 a0_2 l0_3) else ((wire_Valid.f k a0_0 a0_1 a0_2 l0_3).bind fun t310 => (if t310 = true then (if a1 < 1 then (legatelaw01_WireSizes.j0 k a1 t308 true a0_0 a0_1 a0_2 l0_3) else (legatelaw01_WireSizes.j0 k a1 t308 (decide (a1 > 127)) a0_0 a0_1 a0_2 l0_3)) else (legatelaw01_WireSizes.j0 k a1 t308 true a0_0 a0_1 a0_2 l0_3))))) else (some false))
set_option maxHeartbeats 60000000 in
set_option maxRecDepth 100000 in
theorem legatelaw01_WireSizes.calls (k : Nat) (a0_0 : Bool) (a0_1 : Int) (a0_2 : ByteArray) (A0_3 : Option Addr) (c0_3 : Nat) (l0_3 : List (S44)) (a1 : Int) (r : Bool) (w : World) (hr0_3 : Kd.C k44 w A0_3 l0_3.length l0_3) (hc0_3 : l0_3.length ≤ c0_3) (h : legatelaw01_WireSizes.f k a0_0 a0_1 a0_2 l0_3 a1 = some r) :
    Calls Try.prog 17 #[.agg #[.bool a0_0, .int .i64 a0_1, .string a0_2, .slice A0_3 l0_3.length c0_3], .int .i64 a1] w fun e w' => e = .returned (.bool r) ∧ Below w.heap.size w w' := by
  have hu44 := Try.underlying44
  have HR0_3 := Aside0.mk hr0_3
  have HC0_3 := Aside0.mk hc0_3
  clear hr0_3 hc0_3
  have HB := Aside0.mk (Below.refl w.heap.size w)
  have H : ((legatelaw01_works.f k).bind fun t308 => (if t308 = true then ((legateref01_Large.f k a0_0 a0_1 a0_2 l0_3 2000).bind fun t309 => (if t309 = true then (legatelaw01_WireSizes.j0 k a1 t308 true a0_0 a0_1 a0_2 l0_3) else ((wire_Valid.f k a0_0 a0_1 a0_2 l0_3).bind fun t310 => (if t310 = true then (if a1 < 1 then (legatelaw01_WireSizes.j0 k a1 t308 true a0_0 a0_1 a0_2 l0_3) else (legatelaw01_WireSizes.j0 k a1 t308 (decide (a1 > 127)) a0_0 a0_1 a0_2 l0_3)) else (legatelaw01_WireSizes.j0 k a1 t308 true a0_0 a0_1 a0_2 l0_3))))) else (some false))) = some r := h
  clear h
  replace H := Option.bind_eq_some_iff.mp H
  obtain ⟨t308, A30, H⟩ := H
  replace H : (if t308 = true then ((legateref01_Large.f k a0_0 a0_1 a0_2 l0_3 2000).bind fun t309 => (if t309 = true then (legatelaw01_WireSizes.j0 k a1 t308 true a0_0 a0_1 a0_2 l0_3) else ((wire_Valid.f k a0_0 a0_1 a0_2 l0_3).bind fun t310 => (if t310 = true then (if a1 < 1 then (legatelaw01_WireSizes.j0 k a1 t308 true a0_0 a0_1 a0_2 l0_3) else (legatelaw01_WireSizes.j0 k a1 t308 (decide (a1 > 127)) a0_0 a0_1 a0_2 l0_3)) else (legatelaw01_WireSizes.j0 k a1 t308 true a0_0 a0_1 a0_2 l0_3))))) else (some false)) = some r := H
  have A3 := Aside0.mk A30
  clear A30
  by_cases c4 : t308 = true
  · subst c4
    have H1 : ((legateref01_Large.f k a0_0 a0_1 a0_2 l0_3 2000).bind fun t309 => (if t309 = true then (legatelaw01_WireSizes.j0 k a1 true true a0_0 a0_1 a0_2 l0_3) else ((wire_Valid.f k a0_0 a0_1 a0_2 l0_3).bind fun t310 => (if t310 = true then (if a1 < 1 then (legatelaw01_WireSizes.j0 k a1 true true a0_0 a0_1 a0_2 l0_3) else (legatelaw01_WireSizes.j0 k a1 true (decide (a1 > 127)) a0_0 a0_1 a0_2 l0_3)) else (legatelaw01_WireSizes.j0 k a1 true true a0_0 a0_1 a0_2 l0_3))))) = some r := by rw [if_pos rfl] at H; exact H
    clear H
    have H := H1
    clear H1
    replace H := Option.bind_eq_some_iff.mp H
    obtain ⟨t309, A50, H⟩ := H
    replace H : (if t309 = true then (legatelaw01_WireSizes.j0 k a1 true true a0_0 a0_1 a0_2 l0_3) else ((wire_Valid.f k a0_0 a0_1 a0_2 l0_3).bind fun t310 => (if t310 = true then (if a1 < 1 then (legatelaw01_WireSizes.j0 k a1 true true a0_0 a0_1 a0_2 l0_3) else (legatelaw01_WireSizes.j0 k a1 true (decide (a1 > 127)) a0_0 a0_1 a0_2 l0_3)) else (legatelaw01_WireSizes.j0 k a1 true true a0_0 a0_1 a0_2 l0_3)))) = some r := H
    have A5 := Aside0.mk A50
    clear A50
    have HC6 := Aside0.mk H
    clear H
    go_enter Try.func17, Try.ntmps17
    go_upto_region 5 with (first | ((with_reducible refine gate_dst (N := 2) rfl ?_); (try (refine gate_guard (by rfl) ?_; dsimp only)); refine box_event ?hg (N := 2) ?hd (cs := #[.bool a0_0, .int .i64 a0_1, .string a0_2, .slice A0_3 l0_3.length c0_3]) (t := 44) ?hr ?_; (case hd => rfl); (case hg => rfl); (case hr => first | (go_simp; done) | (go_simp; rfl)); intro gb307 hg w7 hbox hb; have n0_ := Aside0.mk (below_step (by repeat (first | (with_reducible first | exact HB.out | apply below_alloc | apply pw_below_drewN | apply below_drew1) | exact HB.out)) hb); have n1_ := Aside0.mk (hbox); have n2_ := Aside0.mk ((by rw [hg]; exact (below_size (by repeat (first | (with_reducible first | exact HB.out | apply below_alloc | apply pw_below_drewN | apply below_drew1) | exact HB.out))) : w.heap.size ≤ gb307)); have n3_ := Aside0.mk ((by rw [hg]; exact (below_size (by repeat (first | (with_reducible first | exact HB.out | apply below_alloc | apply pw_below_drewN | apply below_drew1) | exact HB.out))) : w.heap.size ≤ gb307)); clear HB; have HB := n0_; have BK307 := n1_; have GW307 := n2_; have GE307 := n3_; clear n0_ n1_ n2_ n3_; clear hb hbox hg) | (go_at_call 34; (with_reducible refine (legatelaw01_works.calls k  true _ A3.out).mono ?_); rintro e w8 ⟨rfl, hb⟩; have n0_ := Aside0.mk (blk_below (g := gb307) (o := .cells #[.bool a0_0, .int .i64 a0_1, .string a0_2, .slice A0_3 l0_3.length c0_3] 44 (0, 0)) (by (with_reducible repeat (first | refine blk_drewN ?_ _ | refine blk_drew ?_ | refine blk_alloc ?_ _)); exact BK307.out) hb); have n1_ := Aside0.mk (below_step (by repeat (first | (with_reducible first | exact HB.out | apply below_alloc | apply pw_below_drewN | apply below_drew1 | refine below_set ?_ GE307.out) | exact HB.out)) hb); clear BK307; clear HB; have BK307 := n0_; have HB := n1_; clear n0_ n1_; (try clear hb); (try clear hb2); (try clear hk); (try clear hi); have hcz9_0 : w8.cell? ⟨gb307, 0, none⟩ = some (.bool a0_0) := (blk_cell BK307.out 0).trans rfl; have hcz9_1 : w8.cell? ⟨gb307, 1, none⟩ = some (.int .i64 a0_1) := (blk_cell BK307.out 1).trans rfl; have hcz9_2 : w8.cell? ⟨gb307, 2, none⟩ = some (.string a0_2) := (blk_cell BK307.out 2).trans rfl; have hcz9_3 : w8.cell? ⟨gb307, 3, none⟩ = some (.slice A0_3 l0_3.length c0_3) := (blk_cell BK307.out 3).trans rfl; have hfz9_0 := blk_frozen BK307.out 0; have hfz9_1 := blk_frozen BK307.out 1; have hfz9_2 := blk_frozen BK307.out 2; have hfz9_3 := blk_frozen BK307.out 3) | (go_at_call 35; (with_reducible refine (legateref01_Large.calls k a0_0 a0_1 a0_2 _ _ l0_3 2000 t309 _ ?side1 ?side2 A5.out).mono ?_); (case side1 => repeat (first | exact (Kd.C_below HR0_3.out HB.out) | (with_reducible refine Kd.C_alloc ?_ _) | (with_reducible refine Kd.C_drewN ?_ _) | (with_reducible refine Kd.C_drew ?_))); (case side2 => exact HC0_3.out); rintro e w10 ⟨rfl, hb⟩; have n0_ := Aside0.mk (blk_below (g := gb307) (o := .cells #[.bool a0_0, .int .i64 a0_1, .string a0_2, .slice A0_3 l0_3.length c0_3] 44 (0, 0)) (by (with_reducible repeat (first | refine blk_drewN ?_ _ | refine blk_drew ?_ | refine blk_alloc ?_ _)); exact BK307.out) hb); have n1_ := Aside0.mk (below_step (by repeat (first | (with_reducible first | exact HB.out | apply below_alloc | apply pw_below_drewN | apply below_drew1 | refine below_set ?_ GE307.out) | exact HB.out)) hb); clear BK307; clear HB; have BK307 := n0_; have HB := n1_; clear n0_ n1_; (try clear hb); (try clear hb2); (try clear hk); (try clear hi)))
    repeat (go_quiet (first | ((with_reducible refine gate_dst (N := 2) rfl ?_); (try (refine gate_guard (by rfl) ?_; dsimp only)); refine box_event ?hg (N := 2) ?hd (cs := #[.bool a0_0, .int .i64 a0_1, .string a0_2, .slice A0_3 l0_3.length c0_3]) (t := 44) ?hr ?_; (case hd => rfl); (case hg => rfl); (case hr => first | (go_simp; done) | (go_simp; rfl)); intro gb307 hg w7 hbox hb; have n0_ := Aside0.mk (below_step (by repeat (first | (with_reducible first | exact HB.out | apply below_alloc | apply pw_below_drewN | apply below_drew1) | exact HB.out)) hb); have n1_ := Aside0.mk (hbox); have n2_ := Aside0.mk ((by rw [hg]; exact (below_size (by repeat (first | (with_reducible first | exact HB.out | apply below_alloc | apply pw_below_drewN | apply below_drew1) | exact HB.out))) : w.heap.size ≤ gb307)); have n3_ := Aside0.mk ((by rw [hg]; exact (below_size (by repeat (first | (with_reducible first | exact HB.out | apply below_alloc | apply pw_below_drewN | apply below_drew1) | exact HB.out))) : w.heap.size ≤ gb307)); clear HB; have HB := n0_; have BK307 := n1_; have GW307 := n2_; have GE307 := n3_; clear n0_ n1_ n2_ n3_; clear hb hbox hg) | (go_at_call 34; (with_reducible refine (legatelaw01_works.calls k  true _ A3.out).mono ?_); rintro e w8 ⟨rfl, hb⟩; have n0_ := Aside0.mk (blk_below (g := gb307) (o := .cells #[.bool a0_0, .int .i64 a0_1, .string a0_2, .slice A0_3 l0_3.length c0_3] 44 (0, 0)) (by (with_reducible repeat (first | refine blk_drewN ?_ _ | refine blk_drew ?_ | refine blk_alloc ?_ _)); exact BK307.out) hb); have n1_ := Aside0.mk (below_step (by repeat (first | (with_reducible first | exact HB.out | apply below_alloc | apply pw_below_drewN | apply below_drew1 | refine below_set ?_ GE307.out) | exact HB.out)) hb); clear BK307; clear HB; have BK307 := n0_; have HB := n1_; clear n0_ n1_; (try clear hb); (try clear hb2); (try clear hk); (try clear hi); have hcz9_0 : w8.cell? ⟨gb307, 0, none⟩ = some (.bool a0_0) := (blk_cell BK307.out 0).trans rfl; have hcz9_1 : w8.cell? ⟨gb307, 1, none⟩ = some (.int .i64 a0_1) := (blk_cell BK307.out 1).trans rfl; have hcz9_2 : w8.cell? ⟨gb307, 2, none⟩ = some (.string a0_2) := (blk_cell BK307.out 2).trans rfl; have hcz9_3 : w8.cell? ⟨gb307, 3, none⟩ = some (.slice A0_3 l0_3.length c0_3) := (blk_cell BK307.out 3).trans rfl; have hfz9_0 := blk_frozen BK307.out 0; have hfz9_1 := blk_frozen BK307.out 1; have hfz9_2 := blk_frozen BK307.out 2; have hfz9_3 := blk_frozen BK307.out 3) | (go_at_call 35; (with_reducible refine (legateref01_Large.calls k a0_0 a0_1 a0_2 _ _ l0_3 2000 t309 _ ?side1 ?side2 A5.out).mono ?_); (case side1 => repeat (first | exact (Kd.C_below HR0_3.out HB.out) | (with_reducible refine Kd.C_alloc ?_ _) | (with_reducible refine Kd.C_drewN ?_ _) | (with_reducible refine Kd.C_drew ?_))); (case side2 => exact HC0_3.out); rintro e w10 ⟨rfl, hb⟩; have n0_ := Aside0.mk (blk_below (g := gb307) (o := .cells #[.bool a0_0, .int .i64 a0_1, .string a0_2, .slice A0_3 l0_3.length c0_3] 44 (0, 0)) (by (with_reducible repeat (first | refine blk_drewN ?_ _ | refine blk_drew ?_ | refine blk_alloc ?_ _)); exact BK307.out) hb); have n1_ := Aside0.mk (below_step (by repeat (first | (with_reducible first | exact HB.out | apply below_alloc | apply pw_below_drewN | apply below_drew1 | refine below_set ?_ GE307.out) | exact HB.out)) hb); clear BK307; clear HB; have BK307 := n0_; have HB := n1_; clear n0_ n1_; (try clear hb); (try clear hb2); (try clear hk); (try clear hi))); go_upto_region 5 with (first | ((with_reducible refine gate_dst (N := 2) rfl ?_); (try (refine gate_guard (by rfl) ?_; dsimp only)); refine box_event ?hg (N := 2) ?hd (cs := #[.bool a0_0, .int .i64 a0_1, .string a0_2, .slice A0_3 l0_3.length c0_3]) (t := 44) ?hr ?_; (case hd => rfl); (case hg => rfl); (case hr => first | (go_simp; done) | (go_simp; rfl)); intro gb307 hg w7 hbox hb; have n0_ := Aside0.mk (below_step (by repeat (first | (with_reducible first | exact HB.out | apply below_alloc | apply pw_below_drewN | apply below_drew1) | exact HB.out)) hb); have n1_ := Aside0.mk (hbox); have n2_ := Aside0.mk ((by rw [hg]; exact (below_size (by repeat (first | (with_reducible first | exact HB.out | apply below_alloc | apply pw_below_drewN | apply below_drew1) | exact HB.out))) : w.heap.size ≤ gb307)); have n3_ := Aside0.mk ((by rw [hg]; exact (below_size (by repeat (first | (with_reducible first | exact HB.out | apply below_alloc | apply pw_below_drewN | apply below_drew1) | exact HB.out))) : w.heap.size ≤ gb307)); clear HB; have HB := n0_; have BK307 := n1_; have GW307 := n2_; have GE307 := n3_; clear n0_ n1_ n2_ n3_; clear hb hbox hg) | (go_at_call 34; (with_reducible refine (legatelaw01_works.calls k  true _ A3.out).mono ?_); rintro e w8 ⟨rfl, hb⟩; have n0_ := Aside0.mk (blk_below (g := gb307) (o := .cells #[.bool a0_0, .int .i64 a0_1, .string a0_2, .slice A0_3 l0_3.length c0_3] 44 (0, 0)) (by (with_reducible repeat (first | refine blk_drewN ?_ _ | refine blk_drew ?_ | refine blk_alloc ?_ _)); exact BK307.out) hb); have n1_ := Aside0.mk (below_step (by repeat (first | (with_reducible first | exact HB.out | apply below_alloc | apply pw_below_drewN | apply below_drew1 | refine below_set ?_ GE307.out) | exact HB.out)) hb); clear BK307; clear HB; have BK307 := n0_; have HB := n1_; clear n0_ n1_; (try clear hb); (try clear hb2); (try clear hk); (try clear hi); have hcz9_0 : w8.cell? ⟨gb307, 0, none⟩ = some (.bool a0_0) := (blk_cell BK307.out 0).trans rfl; have hcz9_1 : w8.cell? ⟨gb307, 1, none⟩ = some (.int .i64 a0_1) := (blk_cell BK307.out 1).trans rfl; have hcz9_2 : w8.cell? ⟨gb307, 2, none⟩ = some (.string a0_2) := (blk_cell BK307.out 2).trans rfl; have hcz9_3 : w8.cell? ⟨gb307, 3, none⟩ = some (.slice A0_3 l0_3.length c0_3) := (blk_cell BK307.out 3).trans rfl; have hfz9_0 := blk_frozen BK307.out 0; have hfz9_1 := blk_frozen BK307.out 1; have hfz9_2 := blk_frozen BK307.out 2; have hfz9_3 := blk_frozen BK307.out 3) | (go_at_call 35; (with_reducible refine (legateref01_Large.calls k a0_0 a0_1 a0_2 _ _ l0_3 2000 t309 _ ?side1 ?side2 A5.out).mono ?_); (case side1 => repeat (first | exact (Kd.C_below HR0_3.out HB.out) | (with_reducible refine Kd.C_alloc ?_ _) | (with_reducible refine Kd.C_drewN ?_ _) | (with_reducible refine Kd.C_drew ?_))); (case side2 => exact HC0_3.out); rintro e w10 ⟨rfl, hb⟩; have n0_ := Aside0.mk (blk_below (g := gb307) (o := .cells #[.bool a0_0, .int .i64 a0_1, .string a0_2, .slice A0_3 l0_3.length c0_3] 44 (0, 0)) (by (with_reducible repeat (first | refine blk_drewN ?_ _ | refine blk_drew ?_ | refine blk_alloc ?_ _)); exact BK307.out) hb); have n1_ := Aside0.mk (below_step (by repeat (first | (with_reducible first | exact HB.out | apply below_alloc | apply pw_below_drewN | apply below_drew1 | refine below_set ?_ GE307.out) | exact HB.out)) hb); clear BK307; clear HB; have BK307 := n0_; have HB := n1_; clear n0_ n1_; (try clear hb); (try clear hb2); (try clear hk); (try clear hi))))
    (try simp only [Act.put, List.setIfInBounds_toArray, List.set_cons_zero, List.set_cons_succ])
    go_cut [35] (fun v35 wc => ∃ (kq : Nat) (x35_5 : Bool), v35 = .bool x35_5 ∧ Aside0 (legatelaw01_WireSizes.j0 kq a1 true x35_5 a0_0 a0_1 a0_2 l0_3 = some r) ∧ Aside0 (kq ≤ k) ∧ Aside0 (wc.heap[gb307]? = some (.cells #[.bool a0_0, .int .i64 a0_1, .string a0_2, (.slice A0_3 l0_3.length c0_3)] 44 (0, 0))) ∧ Aside0 (Below w.heap.size w wc))
    case first =>
      have H := HC6.out
      clear HC6
      by_cases c11 : t309 = true
      · subst c11
        have H1 : (legatelaw01_WireSizes.j0 k a1 true true a0_0 a0_1 a0_2 l0_3) = some r := by rw [if_pos rfl] at H; exact H
        clear H
        have H := H1
        clear H1
        have H' := Aside0.mk H
        clear H
        go_wp2
        repeat (go_quiet (fail); try go_wp2)
        go_meet
        case rel => exact ⟨_, (true), (by first | rfl | (simp; done) | (simp [*]; done)), H', ⟨by first | omega | exact Nat.le_refl _⟩, ⟨by (with_reducible repeat (first | refine blk_drewN ?_ _ | refine blk_drew ?_ | refine blk_alloc ?_ _)); exact BK307.out⟩, ⟨by repeat (first | (with_reducible first | exact HB.out | apply below_alloc | apply pw_below_drewN | apply below_drew1 | refine below_set ?_ GE307.out) | exact HB.out)⟩⟩
      · replace c11 := Bool.eq_false_iff.mpr c11
        subst c11
        have H1 : ((wire_Valid.f k a0_0 a0_1 a0_2 l0_3).bind fun t310 => (if t310 = true then (if a1 < 1 then (legatelaw01_WireSizes.j0 k a1 true true a0_0 a0_1 a0_2 l0_3) else (legatelaw01_WireSizes.j0 k a1 true (decide (a1 > 127)) a0_0 a0_1 a0_2 l0_3)) else (legatelaw01_WireSizes.j0 k a1 true true a0_0 a0_1 a0_2 l0_3))) = some r := by rw [if_neg (show ¬ (false = true) by decide)] at H; exact H
        clear H
        have H := H1
        clear H1
        replace H := Option.bind_eq_some_iff.mp H
        obtain ⟨t310, A120, H⟩ := H
        replace H : (if t310 = true then (if a1 < 1 then (legatelaw01_WireSizes.j0 k a1 true true a0_0 a0_1 a0_2 l0_3) else (legatelaw01_WireSizes.j0 k a1 true (decide (a1 > 127)) a0_0 a0_1 a0_2 l0_3)) else (legatelaw01_WireSizes.j0 k a1 true true a0_0 a0_1 a0_2 l0_3)) = some r := H
        have A12 := Aside0.mk A120
        clear A120
        by_cases c13 : t310 = true
        · subst c13
          have H1 : (if a1 < 1 then (legatelaw01_WireSizes.j0 k a1 true true a0_0 a0_1 a0_2 l0_3) else (legatelaw01_WireSizes.j0 k a1 true (decide (a1 > 127)) a0_0 a0_1 a0_2 l0_3)) = some r := by rw [if_pos rfl] at H; exact H
          clear H
          have H := H1
          clear H1
          by_cases c14 : a1 < 1
          · rw [if_pos c14] at H
            have c14b0 : decide (a1 < 1) = true := decide_eq_true c14
            clear c14
            (first | rw [c14b0] | (simp only [i64_w, i32_w]; rw [c14b0]) | skip)
            have H' := Aside0.mk H
            clear H
            have hcz15_0 : w10.cell? ⟨gb307, 0, none⟩ = some (.bool a0_0) := (blk_cell BK307.out 0).trans rfl
            have hcz15_1 : w10.cell? ⟨gb307, 1, none⟩ = some (.int .i64 a0_1) := (blk_cell BK307.out 1).trans rfl
            have hcz15_2 : w10.cell? ⟨gb307, 2, none⟩ = some (.string a0_2) := (blk_cell BK307.out 2).trans rfl
            have hcz15_3 : w10.cell? ⟨gb307, 3, none⟩ = some (.slice A0_3 l0_3.length c0_3) := (blk_cell BK307.out 3).trans rfl
            have hfz15_0 := blk_frozen BK307.out 0
            have hfz15_1 := blk_frozen BK307.out 1
            have hfz15_2 := blk_frozen BK307.out 2
            have hfz15_3 := blk_frozen BK307.out 3
            go_wp2_with (first | (go_at_call 41; (with_reducible refine (wire_Valid.calls k a0_0 a0_1 a0_2 _ _ l0_3 true _ ?side1 ?side2 A12.out).mono ?_); (case side1 => repeat (first | exact (Kd.C_below HR0_3.out HB.out) | (with_reducible refine Kd.C_alloc ?_ _) | (with_reducible refine Kd.C_drewN ?_ _) | (with_reducible refine Kd.C_drew ?_))); (case side2 => exact HC0_3.out); rintro e w16 ⟨rfl, hb⟩; have n0_ := Aside0.mk (blk_below (g := gb307) (o := .cells #[.bool a0_0, .int .i64 a0_1, .string a0_2, .slice A0_3 l0_3.length c0_3] 44 (0, 0)) (by (with_reducible repeat (first | refine blk_drewN ?_ _ | refine blk_drew ?_ | refine blk_alloc ?_ _)); exact BK307.out) hb); have n1_ := Aside0.mk (below_step (by repeat (first | (with_reducible first | exact HB.out | apply below_alloc | apply pw_below_drewN | apply below_drew1 | refine below_set ?_ GE307.out) | exact HB.out)) hb); clear BK307; clear HB; have BK307 := n0_; have HB := n1_; clear n0_ n1_; (try clear hb); (try clear hb2); (try clear hk); (try clear hi)))
            repeat (go_quiet (first | (go_at_call 41; (with_reducible refine (wire_Valid.calls k a0_0 a0_1 a0_2 _ _ l0_3 true _ ?side1 ?side2 A12.out).mono ?_); (case side1 => repeat (first | exact (Kd.C_below HR0_3.out HB.out) | (with_reducible refine Kd.C_alloc ?_ _) | (with_reducible refine Kd.C_drewN ?_ _) | (with_reducible refine Kd.C_drew ?_))); (case side2 => exact HC0_3.out); rintro e w16 ⟨rfl, hb⟩; have n0_ := Aside0.mk (blk_below (g := gb307) (o := .cells #[.bool a0_0, .int .i64 a0_1, .string a0_2, .slice A0_3 l0_3.length c0_3] 44 (0, 0)) (by (with_reducible repeat (first | refine blk_drewN ?_ _ | refine blk_drew ?_ | refine blk_alloc ?_ _)); exact BK307.out) hb); have n1_ := Aside0.mk (below_step (by repeat (first | (with_reducible first | exact HB.out | apply below_alloc | apply pw_below_drewN | apply below_drew1 | refine below_set ?_ GE307.out) | exact HB.out)) hb); clear BK307; clear HB; have BK307 := n0_; have HB := n1_; clear n0_ n1_; (try clear hb); (try clear hb2); (try clear hk); (try clear hi))); try go_wp2_with (first | (go_at_call 41; (with_reducible refine (wire_Valid.calls k a0_0 a0_1 a0_2 _ _ l0_3 true _ ?side1 ?side2 A12.out).mono ?_); (case side1 => repeat (first | exact (Kd.C_below HR0_3.out HB.out) | (with_reducible refine Kd.C_alloc ?_ _) | (with_reducible refine Kd.C_drewN ?_ _) | (with_reducible refine Kd.C_drew ?_))); (case side2 => exact HC0_3.out); rintro e w16 ⟨rfl, hb⟩; have n0_ := Aside0.mk (blk_below (g := gb307) (o := .cells #[.bool a0_0, .int .i64 a0_1, .string a0_2, .slice A0_3 l0_3.length c0_3] 44 (0, 0)) (by (with_reducible repeat (first | refine blk_drewN ?_ _ | refine blk_drew ?_ | refine blk_alloc ?_ _)); exact BK307.out) hb); have n1_ := Aside0.mk (below_step (by repeat (first | (with_reducible first | exact HB.out | apply below_alloc | apply pw_below_drewN | apply below_drew1 | refine below_set ?_ GE307.out) | exact HB.out)) hb); clear BK307; clear HB; have BK307 := n0_; have HB := n1_; clear n0_ n1_; (try clear hb); (try clear hb2); (try clear hk); (try clear hi))))
            go_meet
            case rel => exact ⟨_, (true), (by first | rfl | (simp; done) | (simp [*]; done)), H', ⟨by first | omega | exact Nat.le_refl _⟩, ⟨by (with_reducible repeat (first | refine blk_drewN ?_ _ | refine blk_drew ?_ | refine blk_alloc ?_ _)); exact BK307.out⟩, ⟨by repeat (first | (with_reducible first | exact HB.out | apply below_alloc | apply pw_below_drewN | apply below_drew1 | refine below_set ?_ GE307.out) | exact HB.out)⟩⟩
          · rw [if_neg c14] at H
            have c14b0 : decide (a1 < 1) = false := decide_eq_false c14
            clear c14
            (first | rw [c14b0] | (simp only [i64_w, i32_w]; rw [c14b0]) | skip)
            have H' := Aside0.mk H
            clear H
            have hcz17_0 : w10.cell? ⟨gb307, 0, none⟩ = some (.bool a0_0) := (blk_cell BK307.out 0).trans rfl
            have hcz17_1 : w10.cell? ⟨gb307, 1, none⟩ = some (.int .i64 a0_1) := (blk_cell BK307.out 1).trans rfl
            have hcz17_2 : w10.cell? ⟨gb307, 2, none⟩ = some (.string a0_2) := (blk_cell BK307.out 2).trans rfl
            have hcz17_3 : w10.cell? ⟨gb307, 3, none⟩ = some (.slice A0_3 l0_3.length c0_3) := (blk_cell BK307.out 3).trans rfl
            have hfz17_0 := blk_frozen BK307.out 0
            have hfz17_1 := blk_frozen BK307.out 1
            have hfz17_2 := blk_frozen BK307.out 2
            have hfz17_3 := blk_frozen BK307.out 3
            go_wp2_with (first | (go_at_call 41; (with_reducible refine (wire_Valid.calls k a0_0 a0_1 a0_2 _ _ l0_3 true _ ?side1 ?side2 A12.out).mono ?_); (case side1 => repeat (first | exact (Kd.C_below HR0_3.out HB.out) | (with_reducible refine Kd.C_alloc ?_ _) | (with_reducible refine Kd.C_drewN ?_ _) | (with_reducible refine Kd.C_drew ?_))); (case side2 => exact HC0_3.out); rintro e w18 ⟨rfl, hb⟩; have n0_ := Aside0.mk (blk_below (g := gb307) (o := .cells #[.bool a0_0, .int .i64 a0_1, .string a0_2, .slice A0_3 l0_3.length c0_3] 44 (0, 0)) (by (with_reducible repeat (first | refine blk_drewN ?_ _ | refine blk_drew ?_ | refine blk_alloc ?_ _)); exact BK307.out) hb); have n1_ := Aside0.mk (below_step (by repeat (first | (with_reducible first | exact HB.out | apply below_alloc | apply pw_below_drewN | apply below_drew1 | refine below_set ?_ GE307.out) | exact HB.out)) hb); clear BK307; clear HB; have BK307 := n0_; have HB := n1_; clear n0_ n1_; (try clear hb); (try clear hb2); (try clear hk); (try clear hi)))
            repeat (go_quiet (first | (go_at_call 41; (with_reducible refine (wire_Valid.calls k a0_0 a0_1 a0_2 _ _ l0_3 true _ ?side1 ?side2 A12.out).mono ?_); (case side1 => repeat (first | exact (Kd.C_below HR0_3.out HB.out) | (with_reducible refine Kd.C_alloc ?_ _) | (with_reducible refine Kd.C_drewN ?_ _) | (with_reducible refine Kd.C_drew ?_))); (case side2 => exact HC0_3.out); rintro e w18 ⟨rfl, hb⟩; have n0_ := Aside0.mk (blk_below (g := gb307) (o := .cells #[.bool a0_0, .int .i64 a0_1, .string a0_2, .slice A0_3 l0_3.length c0_3] 44 (0, 0)) (by (with_reducible repeat (first | refine blk_drewN ?_ _ | refine blk_drew ?_ | refine blk_alloc ?_ _)); exact BK307.out) hb); have n1_ := Aside0.mk (below_step (by repeat (first | (with_reducible first | exact HB.out | apply below_alloc | apply pw_below_drewN | apply below_drew1 | refine below_set ?_ GE307.out) | exact HB.out)) hb); clear BK307; clear HB; have BK307 := n0_; have HB := n1_; clear n0_ n1_; (try clear hb); (try clear hb2); (try clear hk); (try clear hi))); try go_wp2_with (first | (go_at_call 41; (with_reducible refine (wire_Valid.calls k a0_0 a0_1 a0_2 _ _ l0_3 true _ ?side1 ?side2 A12.out).mono ?_); (case side1 => repeat (first | exact (Kd.C_below HR0_3.out HB.out) | (with_reducible refine Kd.C_alloc ?_ _) | (with_reducible refine Kd.C_drewN ?_ _) | (with_reducible refine Kd.C_drew ?_))); (case side2 => exact HC0_3.out); rintro e w18 ⟨rfl, hb⟩; have n0_ := Aside0.mk (blk_below (g := gb307) (o := .cells #[.bool a0_0, .int .i64 a0_1, .string a0_2, .slice A0_3 l0_3.length c0_3] 44 (0, 0)) (by (with_reducible repeat (first | refine blk_drewN ?_ _ | refine blk_drew ?_ | refine blk_alloc ?_ _)); exact BK307.out) hb); have n1_ := Aside0.mk (below_step (by repeat (first | (with_reducible first | exact HB.out | apply below_alloc | apply pw_below_drewN | apply below_drew1 | refine below_set ?_ GE307.out) | exact HB.out)) hb); clear BK307; clear HB; have BK307 := n0_; have HB := n1_; clear n0_ n1_; (try clear hb); (try clear hb2); (try clear hk); (try clear hi))))
            go_meet
            case rel => exact ⟨_, (decide (a1 > 127)), (by first | rfl | (simp; done) | (simp [*]; done)), H', ⟨by first | omega | exact Nat.le_refl _⟩, ⟨by (with_reducible repeat (first | refine blk_drewN ?_ _ | refine blk_drew ?_ | refine blk_alloc ?_ _)); exact BK307.out⟩, ⟨by repeat (first | (with_reducible first | exact HB.out | apply below_alloc | apply pw_below_drewN | apply below_drew1 | refine below_set ?_ GE307.out) | exact HB.out)⟩⟩
        · replace c13 := Bool.eq_false_iff.mpr c13
          subst c13
          have H1 : (legatelaw01_WireSizes.j0 k a1 true true a0_0 a0_1 a0_2 l0_3) = some r := by rw [if_neg (show ¬ (false = true) by decide)] at H; exact H
          clear H
          have H := H1
          clear H1
          have H' := Aside0.mk H
          clear H
          have hcz19_0 : w10.cell? ⟨gb307, 0, none⟩ = some (.bool a0_0) := (blk_cell BK307.out 0).trans rfl
          have hcz19_1 : w10.cell? ⟨gb307, 1, none⟩ = some (.int .i64 a0_1) := (blk_cell BK307.out 1).trans rfl
          have hcz19_2 : w10.cell? ⟨gb307, 2, none⟩ = some (.string a0_2) := (blk_cell BK307.out 2).trans rfl
          have hcz19_3 : w10.cell? ⟨gb307, 3, none⟩ = some (.slice A0_3 l0_3.length c0_3) := (blk_cell BK307.out 3).trans rfl
          have hfz19_0 := blk_frozen BK307.out 0
          have hfz19_1 := blk_frozen BK307.out 1
          have hfz19_2 := blk_frozen BK307.out 2
          have hfz19_3 := blk_frozen BK307.out 3
          go_wp2_with (first | (go_at_call 41; (with_reducible refine (wire_Valid.calls k a0_0 a0_1 a0_2 _ _ l0_3 false _ ?side1 ?side2 A12.out).mono ?_); (case side1 => repeat (first | exact (Kd.C_below HR0_3.out HB.out) | (with_reducible refine Kd.C_alloc ?_ _) | (with_reducible refine Kd.C_drewN ?_ _) | (with_reducible refine Kd.C_drew ?_))); (case side2 => exact HC0_3.out); rintro e w20 ⟨rfl, hb⟩; have n0_ := Aside0.mk (blk_below (g := gb307) (o := .cells #[.bool a0_0, .int .i64 a0_1, .string a0_2, .slice A0_3 l0_3.length c0_3] 44 (0, 0)) (by (with_reducible repeat (first | refine blk_drewN ?_ _ | refine blk_drew ?_ | refine blk_alloc ?_ _)); exact BK307.out) hb); have n1_ := Aside0.mk (below_step (by repeat (first | (with_reducible first | exact HB.out | apply below_alloc | apply pw_below_drewN | apply below_drew1 | refine below_set ?_ GE307.out) | exact HB.out)) hb); clear BK307; clear HB; have BK307 := n0_; have HB := n1_; clear n0_ n1_; (try clear hb); (try clear hb2); (try clear hk); (try clear hi)))
          repeat (go_quiet (first | (go_at_call 41; (with_reducible refine (wire_Valid.calls k a0_0 a0_1 a0_2 _ _ l0_3 false _ ?side1 ?side2 A12.out).mono ?_); (case side1 => repeat (first | exact (Kd.C_below HR0_3.out HB.out) | (with_reducible refine Kd.C_alloc ?_ _) | (with_reducible refine Kd.C_drewN ?_ _) | (with_reducible refine Kd.C_drew ?_))); (case side2 => exact HC0_3.out); rintro e w20 ⟨rfl, hb⟩; have n0_ := Aside0.mk (blk_below (g := gb307) (o := .cells #[.bool a0_0, .int .i64 a0_1, .string a0_2, .slice A0_3 l0_3.length c0_3] 44 (0, 0)) (by (with_reducible repeat (first | refine blk_drewN ?_ _ | refine blk_drew ?_ | refine blk_alloc ?_ _)); exact BK307.out) hb); have n1_ := Aside0.mk (below_step (by repeat (first | (with_reducible first | exact HB.out | apply below_alloc | apply pw_below_drewN | apply below_drew1 | refine below_set ?_ GE307.out) | exact HB.out)) hb); clear BK307; clear HB; have BK307 := n0_; have HB := n1_; clear n0_ n1_; (try clear hb); (try clear hb2); (try clear hk); (try clear hi))); try go_wp2_with (first | (go_at_call 41; (with_reducible refine (wire_Valid.calls k a0_0 a0_1 a0_2 _ _ l0_3 false _ ?side1 ?side2 A12.out).mono ?_); (case side1 => repeat (first | exact (Kd.C_below HR0_3.out HB.out) | (with_reducible refine Kd.C_alloc ?_ _) | (with_reducible refine Kd.C_drewN ?_ _) | (with_reducible refine Kd.C_drew ?_))); (case side2 => exact HC0_3.out); rintro e w20 ⟨rfl, hb⟩; have n0_ := Aside0.mk (blk_below (g := gb307) (o := .cells #[.bool a0_0, .int .i64 a0_1, .string a0_2, .slice A0_3 l0_3.length c0_3] 44 (0, 0)) (by (with_reducible repeat (first | refine blk_drewN ?_ _ | refine blk_drew ?_ | refine blk_alloc ?_ _)); exact BK307.out) hb); have n1_ := Aside0.mk (below_step (by repeat (first | (with_reducible first | exact HB.out | apply below_alloc | apply pw_below_drewN | apply below_drew1 | refine below_set ?_ GE307.out) | exact HB.out)) hb); clear BK307; clear HB; have BK307 := n0_; have HB := n1_; clear n0_ n1_; (try clear hb); (try clear hb2); (try clear hk); (try clear hi))))
          go_meet
          case rel => exact ⟨_, (true), (by first | rfl | (simp; done) | (simp [*]; done)), H', ⟨by first | omega | exact Nat.le_refl _⟩, ⟨by (with_reducible repeat (first | refine blk_drewN ?_ _ | refine blk_drew ?_ | refine blk_alloc ?_ _)); exact BK307.out⟩, ⟨by repeat (first | (with_reducible first | exact HB.out | apply below_alloc | apply pw_below_drewN | apply below_drew1 | refine below_set ?_ GE307.out) | exact HB.out)⟩⟩
    case rest =>
      clear HC6
      try clear c1
      try clear p2
      try clear c4
      try clear c11
      try clear c13
      try clear c14
      try clear c14b0
      try clear c17
      try clear hcz15_0
      try clear hcz15_1
      try clear hcz15_2
      try clear hcz15_3
      try clear hcz17_0
      try clear hcz17_1
      try clear hcz17_2
      try clear hcz17_3
      try clear hcz19_0
      try clear hcz19_1
      try clear hcz19_2
      try clear hcz19_3
      try clear hcz9_0
      try clear hcz9_1
      try clear hcz9_2
      try clear hcz9_3
      try clear hfz15_0
      try clear hfz15_1
      try clear hfz15_2
      try clear hfz15_3
      try clear hfz17_0
      try clear hfz17_1
      try clear hfz17_2
      try clear hfz17_3
      try clear hfz19_0
      try clear hfz19_1
      try clear hfz19_2
      try clear hfz19_3
      try clear hfz9_0
      try clear hfz9_1
      try clear hfz9_2
      try clear hfz9_3
      obtain ⟨kq, x35_5, rfl, HA, HJ5, BK307, HB⟩ := hcut
      cases kq with
      | zero => exact absurd HA.out (by simp [legatelaw01_WireSizes.j0])
      | succ kj5 =>
        have H := HA.out
        clear HA
        simp only [legatelaw01_WireSizes.j0] at H
        by_cases c21 : x35_5 = true
        · subst c21
          have H1 : (some true) = some r := by rw [if_pos rfl] at H; exact H
          clear H
          have H := H1
          clear H1
          obtain rfl := Option.some.inj H
          go_wp2
          repeat (go_quiet (fail); try go_wp2)
          go_ret
          exact ⟨by first | rfl | (simp [errW_none, errW_some] <;> rfl) | (simp [*, errW_none, errW_some] <;> rfl), by repeat (first | (with_reducible first | exact HB.out | apply below_alloc | apply pw_below_drewN | apply below_drew1 | refine below_set ?_ GE307.out) | exact HB.out)⟩
        · replace c21 := Bool.eq_false_iff.mpr c21
          subst c21
          have H1 : ((wire_Put.f a0_0 a0_1 a0_2 l0_3).bind fun bt311 => ((wire_Put.f a0_0 a1 a0_2 l0_3).bind fun bt314 => (legatelaw01_WireSizes.l0 kj5 a1 true bt311.1 bt311.2 bt314.1 bt314.2 (a0_2.size : Int) 0 a0_0 a0_1 a0_2 l0_3))) = some r := by rw [if_neg (show ¬ (false = true) by decide)] at H; exact H
          clear H
          have H := H1
          clear H1
          replace H := Option.bind_eq_some_iff.mp H
          obtain ⟨⟨t311, t312⟩, A220, H⟩ := H
          replace H : ((wire_Put.f a0_0 a1 a0_2 l0_3).bind fun bt314 => (legatelaw01_WireSizes.l0 kj5 a1 true t311 t312 bt314.1 bt314.2 (a0_2.size : Int) 0 a0_0 a0_1 a0_2 l0_3)) = some r := H
          have A22 := Aside0.mk A220
          clear A220
          replace H := Option.bind_eq_some_iff.mp H
          obtain ⟨⟨t314, t315⟩, A230, H⟩ := H
          replace H : (legatelaw01_WireSizes.l0 kj5 a1 true t311 t312 t314 t315 (a0_2.size : Int) 0 a0_0 a0_1 a0_2 l0_3) = some r := H
          have A23 := Aside0.mk A230
          clear A230
          have H' := Aside0.mk H
          clear H
          have hcz24_0 : wc.cell? ⟨gb307, 0, none⟩ = some (.bool a0_0) := (blk_cell BK307.out 0).trans rfl
          have hcz24_1 : wc.cell? ⟨gb307, 1, none⟩ = some (.int .i64 a0_1) := (blk_cell BK307.out 1).trans rfl
          have hcz24_2 : wc.cell? ⟨gb307, 2, none⟩ = some (.string a0_2) := (blk_cell BK307.out 2).trans rfl
          have hcz24_3 : wc.cell? ⟨gb307, 3, none⟩ = some (.slice A0_3 l0_3.length c0_3) := (blk_cell BK307.out 3).trans rfl
          have hfz24_0 := blk_frozen BK307.out 0
          have hfz24_1 := blk_frozen BK307.out 1
          have hfz24_2 := blk_frozen BK307.out 2
          have hfz24_3 := blk_frozen BK307.out 3
          go_upto_region 9 with (first | (go_at_call 36; (with_reducible refine (wire_Put.calls a0_0 a0_1 a0_2 _ _ l0_3 t311 t312 _ ?side1 ?side2 A22.out).mono ?_); (case side1 => repeat (first | exact (Kd.C_below HR0_3.out HB.out) | (with_reducible refine Kd.C_alloc ?_ _) | (with_reducible refine Kd.C_drewN ?_ _) | (with_reducible refine Kd.C_drew ?_))); (case side2 => exact HC0_3.out); rintro e w25 ⟨rfl, hb⟩; have n0_ := Aside0.mk (blk_below (g := gb307) (o := .cells #[.bool a0_0, .int .i64 a0_1, .string a0_2, .slice A0_3 l0_3.length c0_3] 44 (0, 0)) (by (with_reducible repeat (first | refine blk_drewN ?_ _ | refine blk_drew ?_ | refine blk_alloc ?_ _)); exact BK307.out) hb); have n1_ := Aside0.mk (below_step (by repeat (first | (with_reducible first | exact HB.out | apply below_alloc | apply pw_below_drewN | apply below_drew1 | refine below_set ?_ GE307.out) | exact HB.out)) hb); clear BK307; clear HB; have BK307 := n0_; have HB := n1_; clear n0_ n1_; (try clear hb); (try clear hb2); (try clear hk); (try clear hi); have hcz26_0 : w25.cell? ⟨gb307, 0, none⟩ = some (.bool a0_0) := (blk_cell BK307.out 0).trans rfl; have hcz26_1 : w25.cell? ⟨gb307, 1, none⟩ = some (.int .i64 a0_1) := (blk_cell BK307.out 1).trans rfl; have hcz26_2 : w25.cell? ⟨gb307, 2, none⟩ = some (.string a0_2) := (blk_cell BK307.out 2).trans rfl; have hcz26_3 : w25.cell? ⟨gb307, 3, none⟩ = some (.slice A0_3 l0_3.length c0_3) := (blk_cell BK307.out 3).trans rfl; have hfz26_0 := blk_frozen BK307.out 0; have hfz26_1 := blk_frozen BK307.out 1; have hfz26_2 := blk_frozen BK307.out 2; have hfz26_3 := blk_frozen BK307.out 3) | ((with_reducible refine gate_dst (N := 9) rfl ?_); (try (refine gate_guard (by rfl) ?_; dsimp only)); refine box_event ?hg (N := 9) ?hd (cs := #[.bool false, .int .i64 0, .string (⟨#[]⟩ : ByteArray), .slice none 0 0]) (t := 44) ?hr ?_; (case hd => rfl); (case hg => rfl); (case hr => first | (go_simp; done) | (go_simp; rfl)); intro gb313 hg w27 hbox hb; have n0_ := Aside0.mk (blk_below (g := gb307) (o := .cells #[.bool a0_0, .int .i64 a0_1, .string a0_2, .slice A0_3 l0_3.length c0_3] 44 (0, 0)) (by (with_reducible repeat (first | refine blk_drewN ?_ _ | refine blk_drew ?_ | refine blk_alloc ?_ _)); exact BK307.out) hb); have n1_ := Aside0.mk (below_step (by repeat (first | (with_reducible first | exact HB.out | apply below_alloc | apply pw_below_drewN | apply below_drew1 | refine below_set ?_ GE307.out) | exact HB.out)) hb); have n2_ := Aside0.mk (hbox); have n3_ := Aside0.mk ((by rw [hg]; exact (below_size (by repeat (first | (with_reducible first | exact HB.out | apply below_alloc | apply pw_below_drewN | apply below_drew1 | refine below_set ?_ GE307.out) | exact HB.out))) : w.heap.size ≤ gb313)); have n4_ := Aside0.mk ((by rw [hg]; exact (below_size (by repeat (first | (with_reducible first | exact HB.out | apply below_alloc | apply pw_below_drewN | apply below_drew1 | refine below_set ?_ GE307.out) | exact HB.out))) : w.heap.size ≤ gb313)); have n5_ := Aside0.mk ((by rw [hg]; exact Nat.ne_of_lt (blk_lt (g := gb307) (o := .cells #[.bool a0_0, .int .i64 a0_1, .string a0_2, .slice A0_3 l0_3.length c0_3] 44 (0, 0)) (by (with_reducible repeat (first | refine blk_drewN ?_ _ | refine blk_drew ?_ | refine blk_alloc ?_ _)); exact BK307.out)) : gb307 ≠ gb313)); have n6_ := Aside0.mk ((by rw [hg]; exact Nat.ne_of_gt (blk_lt (g := gb307) (o := .cells #[.bool a0_0, .int .i64 a0_1, .string a0_2, .slice A0_3 l0_3.length c0_3] 44 (0, 0)) (by (with_reducible repeat (first | refine blk_drewN ?_ _ | refine blk_drew ?_ | refine blk_alloc ?_ _)); exact BK307.out)) : gb313 ≠ gb307)); clear BK307; clear HB; have BK307 := n0_; have HB := n1_; have BK313 := n2_; have GW313 := n3_; have GE313 := n4_; have NB307_313 := n5_; have NB313_307 := n6_; clear n0_ n1_ n2_ n3_ n4_ n5_ n6_; clear hb hbox hg; have hnb28 := NB313_307.out; have hnc28 := NB307_313.out; have hcz29_0 : w27.cell? ⟨gb313, 0, none⟩ = some (.bool false) := (blk_cell BK313.out 0).trans rfl; have hcz29_1 : w27.cell? ⟨gb313, 1, none⟩ = some (.int .i64 0) := (blk_cell BK313.out 1).trans rfl; have hcz29_2 : w27.cell? ⟨gb313, 2, none⟩ = some (.string (⟨#[]⟩ : ByteArray)) := (blk_cell BK313.out 2).trans rfl; have hcz29_3 : w27.cell? ⟨gb313, 3, none⟩ = some (.slice none 0 0) := (blk_cell BK313.out 3).trans rfl; have hfz29_0 := blk_frozen BK313.out 0; have hfz29_1 := blk_frozen BK313.out 1; have hfz29_2 := blk_frozen BK313.out 2; have hfz29_3 := blk_frozen BK313.out 3))
          obtain ⟨wA, hwA⟩ : ∃ wA, wA = (((w27.setCell ⟨gb313, 0, none⟩ (.bool a0_0)).setCell ⟨gb313, 1, none⟩ (.int .i64 a0_1)).setCell ⟨gb313, 2, none⟩ (.string a0_2)).setCell ⟨gb313, 3, none⟩ (.slice A0_3 l0_3.length c0_3) := ⟨_, rfl⟩
          rw [← hwA]
          have bAy : wA.heap[gb313]? = some (.cells #[.bool a0_0, .int .i64 a0_1, .string a0_2, .slice A0_3 l0_3.length c0_3] 44 (0, 0)) := by
            rw [hwA]
            refine blk_put (cs := #[.bool a0_0, .int .i64 a0_1, .string a0_2, .slice none 0 0]) ?_ 3 _ rfl
            refine blk_put (cs := #[.bool a0_0, .int .i64 a0_1, .string (⟨#[]⟩ : ByteArray), .slice none 0 0]) ?_ 2 _ rfl
            refine blk_put (cs := #[.bool a0_0, .int .i64 0, .string (⟨#[]⟩ : ByteArray), .slice none 0 0]) ?_ 1 _ rfl
            refine blk_put (cs := #[.bool false, .int .i64 0, .string (⟨#[]⟩ : ByteArray), .slice none 0 0]) ?_ 0 _ rfl
            exact BK313.out
          have bAx : wA.heap[gb307]? = some (.cells #[.bool a0_0, .int .i64 a0_1, .string a0_2, .slice A0_3 l0_3.length c0_3] 44 (0, 0)) := by
            rw [hwA]
            repeat (first | exact BK307.out | refine blk_far ?_ NB307_313.out _)
          have hA : Below w.heap.size w wA := by
            rw [hwA]
            repeat (first | exact HB.out | refine below_set ?_ GE313.out)
          clear hwA BK307 BK313 HB
          have BK307 := Aside0.mk bAx
          have BK313 := Aside0.mk bAy
          have HB := Aside0.mk hA
          clear bAx bAy hA
          have hq1 : wA.cell? ⟨gb313, 1, none⟩ = some (.int .i64 a0_1) := (blk_cell BK313.out 1).trans rfl
          have fq1 := blk_frozen BK313.out 1
          go_upto_region 10 with fail
          obtain ⟨wB, hwB⟩ : ∃ wB, wB = wA.setCell ⟨gb313, 1, none⟩ (.int .i64 a1) := ⟨_, rfl⟩
          rw [← hwB]
          have bBy : wB.heap[gb313]? = some (.cells #[.bool a0_0, .int .i64 a1, .string a0_2, .slice A0_3 l0_3.length c0_3] 44 (0, 0)) := by
            rw [hwB]
            refine blk_put (cs := #[.bool a0_0, .int .i64 a0_1, .string a0_2, .slice A0_3 l0_3.length c0_3]) ?_ 1 _ rfl
            exact BK313.out
          have bBx : wB.heap[gb307]? = some (.cells #[.bool a0_0, .int .i64 a0_1, .string a0_2, .slice A0_3 l0_3.length c0_3] 44 (0, 0)) := by
            rw [hwB]
            exact blk_far BK307.out NB307_313.out _
          have hB : Below w.heap.size w wB := by
            rw [hwB]
            exact below_set HB.out GE313.out
          clear hwB hq1 fq1 BK307 BK313 HB
          have BK307 := Aside0.mk bBx
          have BK313 := Aside0.mk bBy
          have HB := Aside0.mk hB
          clear bBx bBy hB
          have hqy0 : wB.cell? ⟨gb313, 0, none⟩ = some (.bool a0_0) := (blk_cell BK313.out 0).trans rfl
          have hqy1 : wB.cell? ⟨gb313, 1, none⟩ = some (.int .i64 a1) := (blk_cell BK313.out 1).trans rfl
          have hqy2 : wB.cell? ⟨gb313, 2, none⟩ = some (.string a0_2) := (blk_cell BK313.out 2).trans rfl
          have hqy3 : wB.cell? ⟨gb313, 3, none⟩ = some (.slice A0_3 l0_3.length c0_3) := (blk_cell BK313.out 3).trans rfl
          have hqx0 : wB.cell? ⟨gb307, 0, none⟩ = some (.bool a0_0) := (blk_cell BK307.out 0).trans rfl
          have hqx1 : wB.cell? ⟨gb307, 1, none⟩ = some (.int .i64 a0_1) := (blk_cell BK307.out 1).trans rfl
          have hqx2 : wB.cell? ⟨gb307, 2, none⟩ = some (.string a0_2) := (blk_cell BK307.out 2).trans rfl
          have hqx3 : wB.cell? ⟨gb307, 3, none⟩ = some (.slice A0_3 l0_3.length c0_3) := (blk_cell BK307.out 3).trans rfl
          go_wp2_with (first | (go_at_call 36; (with_reducible refine (wire_Put.calls a0_0 a1 a0_2 _ _ l0_3 t314 t315 _ ?side1 ?side2 A23.out).mono ?_); (case side1 => exact Kd.C_below HR0_3.out HB.out); (case side2 => exact HC0_3.out); rintro e w30 ⟨rfl, hb⟩; have n0_ := Aside0.mk (blk_below (g := gb307) (o := .cells #[.bool a0_0, .int .i64 a0_1, .string a0_2, .slice A0_3 l0_3.length c0_3] 44 (0, 0)) BK307.out hb); have n1_ := Aside0.mk (blk_below (g := gb313) (o := .cells #[.bool a0_0, .int .i64 a1, .string a0_2, .slice A0_3 l0_3.length c0_3] 44 (0, 0)) BK313.out hb); have n2_ := Aside0.mk (below_step HB.out hb); clear BK307; clear BK313; clear HB; have BK307 := n0_; have BK313 := n1_; have HB := n2_; clear n0_ n1_ n2_ hb; have hcz31_0 : w30.cell? ⟨gb307, 0, none⟩ = some (.bool a0_0) := (blk_cell BK307.out 0).trans rfl; have hcz31_1 : w30.cell? ⟨gb307, 1, none⟩ = some (.int .i64 a0_1) := (blk_cell BK307.out 1).trans rfl; have hcz31_2 : w30.cell? ⟨gb307, 2, none⟩ = some (.string a0_2) := (blk_cell BK307.out 2).trans rfl; have hcz31_3 : w30.cell? ⟨gb307, 3, none⟩ = some (.slice A0_3 l0_3.length c0_3) := (blk_cell BK307.out 3).trans rfl; have hfz31_0 := blk_frozen BK307.out 0; have hfz31_1 := blk_frozen BK307.out 1; have hfz31_2 := blk_frozen BK307.out 2; have hfz31_3 := blk_frozen BK307.out 3))
          try clear hqy0 hqx0
          try clear hqy1 hqx1
          try clear hqy2 hqx2
          try clear hqy3 hqx3
          go_loopg [12, 13] kj5 (fun kq v12 v13 w' => ∃ (x12_2 : Int) (x13_2 : Int), v12 = .int .i64 x12_2 ∧ v13 = .int .i64 x13_2 ∧ Aside0 (legatelaw01_WireSizes.l0 kq a1 true t311 t312 t314 t315 x12_2 x13_2 a0_0 a0_1 a0_2 l0_3 = some r) ∧ Aside0 (kq ≤ kj5) ∧ Aside0 (w'.heap[gb307]? = some (.cells #[.bool a0_0, .int .i64 a0_1, .string a0_2, (.slice A0_3 l0_3.length c0_3)] 44 (0, 0))) ∧ Aside0 (w'.heap[gb313]? = some (.cells #[.bool a0_0, .int .i64 a1, .string a0_2, (.slice A0_3 l0_3.length c0_3)] 44 (0, 0))) ∧ Aside0 (Below w.heap.size w w'))
          case atStart => exact ⟨((a0_2.size : Int)), (0), (by first | rfl | (simp; done) | (simp [*]; done)), (by first | rfl | (simp; done) | (simp [*]; done)), H', ⟨Nat.le_refl _⟩, ⟨by (with_reducible repeat (first | refine blk_drewN ?_ _ | refine blk_drew ?_ | refine blk_alloc ?_ _)); exact BK307.out⟩, ⟨by (with_reducible repeat (first | refine blk_drewN ?_ _ | refine blk_drew ?_ | refine blk_alloc ?_ _)); exact BK313.out⟩, ⟨by repeat (first | (with_reducible first | exact HB.out | apply below_alloc | apply pw_below_drewN | apply below_drew1 | refine below_set ?_ GE307.out | refine below_set ?_ GE313.out) | exact HB.out)⟩⟩
          case round =>
            clear H'
            try clear c1
            try clear c2
            try clear p2
            try clear c4
            try clear c11
            try clear c13
            try clear c14
            try clear c14b0
            try clear c17
            try clear c21
            try clear c28
            try clear hcz15_0
            try clear hcz15_1
            try clear hcz15_2
            try clear hcz15_3
            try clear hcz17_0
            try clear hcz17_1
            try clear hcz17_2
            try clear hcz17_3
            try clear hcz19_0
            try clear hcz19_1
            try clear hcz19_2
            try clear hcz19_3
            try clear hcz24_0
            try clear hcz24_1
            try clear hcz24_2
            try clear hcz24_3
            try clear hcz26_0
            try clear hcz26_1
            try clear hcz26_2
            try clear hcz26_3
            try clear hcz29_0
            try clear hcz29_1
            try clear hcz29_2
            try clear hcz29_3
            try clear hcz31_0
            try clear hcz31_1
            try clear hcz31_2
            try clear hcz31_3
            try clear hcz9_0
            try clear hcz9_1
            try clear hcz9_2
            try clear hcz9_3
            try clear hfz15_0
            try clear hfz15_1
            try clear hfz15_2
            try clear hfz15_3
            try clear hfz17_0
            try clear hfz17_1
            try clear hfz17_2
            try clear hfz17_3
            try clear hfz19_0
            try clear hfz19_1
            try clear hfz19_2
            try clear hfz19_3
            try clear hfz24_0
            try clear hfz24_1
            try clear hfz24_2
            try clear hfz24_3
            try clear hfz26_0
            try clear hfz26_1
            try clear hfz26_2
            try clear hfz26_3
            try clear hfz29_0
            try clear hfz29_1
            try clear hfz29_2
            try clear hfz29_3
            try clear hfz31_0
            try clear hfz31_1
            try clear hfz31_2
            try clear hfz31_3
            try clear hfz9_0
            try clear hfz9_1
            try clear hfz9_2
            try clear hfz9_3
            try clear p2
            obtain ⟨x12_2, x13_2, rfl, rfl, HA, HK2, BK307, BK313, HB⟩ := hrel
            cases gk with
            | zero => exact absurd HA.out (by simp [legatelaw01_WireSizes.l0])
            | succ k2 =>
              have H := HA.out
              clear HA
              simp only [legatelaw01_WireSizes.l0] at H
              by_cases c32 : x13_2 < (l0_3.length : Int)
              · rw [if_pos c32] at H
                have c32b0 : decide (x13_2 < (l0_3.length : Int)) = true := decide_eq_true c32
                clear c32
                by_cases c33 : 0 ≤ x13_2
                · rw [if_pos c33] at H
                  have c33b0 : decide (0 ≤ x13_2) = true := decide_eq_true c33
                  clear c33
                  replace H := Option.bind_eq_some_iff.mp H
                  obtain ⟨⟨t317, t318⟩, A340, H⟩ := H
                  replace H : (if t318 = 0 then (legatelaw01_WireSizes.l0 k2 a1 true t311 t312 t314 t315 (wrap64 (x12_2 + (t317.size : Int))) (wrap64 (x13_2 + 1)) a0_0 a0_1 a0_2 l0_3) else (some false)) = some r := H
                  have A34 := Aside0.mk A340
                  clear A340
                  by_cases c35 : t318 = 0
                  · rw [if_pos c35] at H
                    have c35b0 : (t318 == 0) = true := beq_iff_eq.mpr c35
                    have c35b1 : (t318 != 0) = false := bne_eq_false_iff_eq.mpr c35
                    clear c35
                    have H' := Aside0.mk H
                    clear H
                    have hnb36 := NB307_313.out
                    have hnc36 := NB313_307.out
                    have hcz37_0 : wr.cell? ⟨gb307, 0, none⟩ = some (.bool a0_0) := (blk_cell BK307.out 0).trans rfl
                    have hcz37_1 : wr.cell? ⟨gb307, 1, none⟩ = some (.int .i64 a0_1) := (blk_cell BK307.out 1).trans rfl
                    have hcz37_2 : wr.cell? ⟨gb307, 2, none⟩ = some (.string a0_2) := (blk_cell BK307.out 2).trans rfl
                    have hcz37_3 : wr.cell? ⟨gb307, 3, none⟩ = some (.slice A0_3 l0_3.length c0_3) := (blk_cell BK307.out 3).trans rfl
                    have hfz37_0 := blk_frozen BK307.out 0
                    have hfz37_1 := blk_frozen BK307.out 1
                    have hfz37_2 := blk_frozen BK307.out 2
                    have hfz37_3 := blk_frozen BK307.out 3
                    have p316 : 0 ≤ (x13_2 : Int) := of_decide_eq_true (by first | (with_reducible assumption) | assumption)
                    have q316 : x13_2 < (l0_3.length : Int) := of_decide_eq_true (by first | (with_reducible assumption) | assumption)
                    obtain ⟨ad316, A316_3, c316_3, e316, hx316_0, hx316_1, hx316_2, hx316_3, hl316_3, hi316_3⟩ := at_T44 HR0_3.out x13_2 p316 q316
                    cases e316
                    replace hx316_0 := (HB.out.cell (World.block_lt_of_cell? w _ hx316_0)).trans hx316_0
                    replace hx316_1 := (HB.out.cell (World.block_lt_of_cell? w _ hx316_1)).trans hx316_1
                    replace hx316_2 := (HB.out.cell (World.block_lt_of_cell? w _ hx316_2)).trans hx316_2
                    replace hx316_3 := (HB.out.cell (World.block_lt_of_cell? w _ hx316_3)).trans hx316_3
                    have HR316_3 := Aside0.mk hi316_3
                    have HC316_3 := Aside0.mk hl316_3
                    clear hi316_3 hl316_3
                    replace p316 := eq_true p316
                    replace q316 := eq_true q316
                    go_wp2_with (first | (go_at_call 36; (with_reducible refine (wire_Put.calls ((rd_T44 l0_3 x13_2).f0) ((rd_T44 l0_3 x13_2).f1) ((rd_T44 l0_3 x13_2).f2) _ _ ((rd_T44 l0_3 x13_2).f3) t317 t318 _ ?side1 ?side2 A34.out).mono ?_); (case side1 => repeat (first | exact (Kd.C_below HR316_3.out HB.out) | (with_reducible refine Kd.C_alloc ?_ _) | (with_reducible refine Kd.C_drewN ?_ _) | (with_reducible refine Kd.C_drew ?_))); (case side2 => exact HC316_3.out); rintro e w38 ⟨rfl, hb⟩; have n0_ := Aside0.mk (blk_below (g := gb307) (o := .cells #[.bool a0_0, .int .i64 a0_1, .string a0_2, .slice (some ad316) l0_3.length c0_3] 44 (0, 0)) (by (with_reducible repeat (first | refine blk_drewN ?_ _ | refine blk_drew ?_ | refine blk_alloc ?_ _)); exact BK307.out) hb); have n1_ := Aside0.mk (blk_below (g := gb313) (o := .cells #[.bool a0_0, .int .i64 a1, .string a0_2, .slice (some ad316) l0_3.length c0_3] 44 (0, 0)) (by (with_reducible repeat (first | refine blk_drewN ?_ _ | refine blk_drew ?_ | refine blk_alloc ?_ _)); exact BK313.out) hb); have n2_ := Aside0.mk (below_step (by repeat (first | (with_reducible first | exact HB.out | apply below_alloc | apply pw_below_drewN | apply below_drew1 | refine below_set ?_ GE307.out | refine below_set ?_ GE313.out) | exact HB.out)) hb); clear BK307; clear BK313; clear HB; have BK307 := n0_; have BK313 := n1_; have HB := n2_; clear n0_ n1_ n2_; (try clear hb); (try clear hb2); (try clear hk); (try clear hi)))
                    repeat (go_quiet (first | (go_at_call 36; (with_reducible refine (wire_Put.calls ((rd_T44 l0_3 x13_2).f0) ((rd_T44 l0_3 x13_2).f1) ((rd_T44 l0_3 x13_2).f2) _ _ ((rd_T44 l0_3 x13_2).f3) t317 t318 _ ?side1 ?side2 A34.out).mono ?_); (case side1 => repeat (first | exact (Kd.C_below HR316_3.out HB.out) | (with_reducible refine Kd.C_alloc ?_ _) | (with_reducible refine Kd.C_drewN ?_ _) | (with_reducible refine Kd.C_drew ?_))); (case side2 => exact HC316_3.out); rintro e w38 ⟨rfl, hb⟩; have n0_ := Aside0.mk (blk_below (g := gb307) (o := .cells #[.bool a0_0, .int .i64 a0_1, .string a0_2, .slice (some ad316) l0_3.length c0_3] 44 (0, 0)) (by (with_reducible repeat (first | refine blk_drewN ?_ _ | refine blk_drew ?_ | refine blk_alloc ?_ _)); exact BK307.out) hb); have n1_ := Aside0.mk (blk_below (g := gb313) (o := .cells #[.bool a0_0, .int .i64 a1, .string a0_2, .slice (some ad316) l0_3.length c0_3] 44 (0, 0)) (by (with_reducible repeat (first | refine blk_drewN ?_ _ | refine blk_drew ?_ | refine blk_alloc ?_ _)); exact BK313.out) hb); have n2_ := Aside0.mk (below_step (by repeat (first | (with_reducible first | exact HB.out | apply below_alloc | apply pw_below_drewN | apply below_drew1 | refine below_set ?_ GE307.out | refine below_set ?_ GE313.out) | exact HB.out)) hb); clear BK307; clear BK313; clear HB; have BK307 := n0_; have BK313 := n1_; have HB := n2_; clear n0_ n1_ n2_; (try clear hb); (try clear hb2); (try clear hk); (try clear hi))); try go_wp2_with (first | (go_at_call 36; (with_reducible refine (wire_Put.calls ((rd_T44 l0_3 x13_2).f0) ((rd_T44 l0_3 x13_2).f1) ((rd_T44 l0_3 x13_2).f2) _ _ ((rd_T44 l0_3 x13_2).f3) t317 t318 _ ?side1 ?side2 A34.out).mono ?_); (case side1 => repeat (first | exact (Kd.C_below HR316_3.out HB.out) | (with_reducible refine Kd.C_alloc ?_ _) | (with_reducible refine Kd.C_drewN ?_ _) | (with_reducible refine Kd.C_drew ?_))); (case side2 => exact HC316_3.out); rintro e w38 ⟨rfl, hb⟩; have n0_ := Aside0.mk (blk_below (g := gb307) (o := .cells #[.bool a0_0, .int .i64 a0_1, .string a0_2, .slice (some ad316) l0_3.length c0_3] 44 (0, 0)) (by (with_reducible repeat (first | refine blk_drewN ?_ _ | refine blk_drew ?_ | refine blk_alloc ?_ _)); exact BK307.out) hb); have n1_ := Aside0.mk (blk_below (g := gb313) (o := .cells #[.bool a0_0, .int .i64 a1, .string a0_2, .slice (some ad316) l0_3.length c0_3] 44 (0, 0)) (by (with_reducible repeat (first | refine blk_drewN ?_ _ | refine blk_drew ?_ | refine blk_alloc ?_ _)); exact BK313.out) hb); have n2_ := Aside0.mk (below_step (by repeat (first | (with_reducible first | exact HB.out | apply below_alloc | apply pw_below_drewN | apply below_drew1 | refine below_set ?_ GE307.out | refine below_set ?_ GE313.out) | exact HB.out)) hb); clear BK307; clear BK313; clear HB; have BK307 := n0_; have BK313 := n1_; have HB := n2_; clear n0_ n1_ n2_; (try clear hb); (try clear hb2); (try clear hk); (try clear hi))))
                    go_roundg k2
                    case measure => have := HJ5.out; have := HK2.out; omega
                    case rel => exact ⟨(wrap64 (x12_2 + (t317.size : Int))), (wrap64 (x13_2 + 1)), (by first | rfl | (simp; done) | (simp [*]; done)), (by first | rfl | (simp; done) | (simp [*]; done)), H', ⟨by have := HJ5.out; have := HK2.out; omega⟩, ⟨by (with_reducible repeat (first | refine blk_drewN ?_ _ | refine blk_drew ?_ | refine blk_alloc ?_ _)); exact BK307.out⟩, ⟨by (with_reducible repeat (first | refine blk_drewN ?_ _ | refine blk_drew ?_ | refine blk_alloc ?_ _)); exact BK313.out⟩, ⟨by repeat (first | (with_reducible first | exact HB.out | apply below_alloc | apply pw_below_drewN | apply below_drew1 | refine below_set ?_ GE307.out | refine below_set ?_ GE313.out) | exact HB.out)⟩⟩
                  · rw [if_neg c35] at H
                    have c35b0 : (t318 == 0) = false := beq_eq_false_iff_ne.mpr c35
                    have c35b1 : (t318 != 0) = true := bne_iff_ne.mpr c35
                    obtain rfl := Option.some.inj H
                    have hnb39 := NB307_313.out
                    have hnc39 := NB313_307.out
                    have hcz40_0 : wr.cell? ⟨gb307, 0, none⟩ = some (.bool a0_0) := (blk_cell BK307.out 0).trans rfl
                    have hcz40_1 : wr.cell? ⟨gb307, 1, none⟩ = some (.int .i64 a0_1) := (blk_cell BK307.out 1).trans rfl
                    have hcz40_2 : wr.cell? ⟨gb307, 2, none⟩ = some (.string a0_2) := (blk_cell BK307.out 2).trans rfl
                    have hcz40_3 : wr.cell? ⟨gb307, 3, none⟩ = some (.slice A0_3 l0_3.length c0_3) := (blk_cell BK307.out 3).trans rfl
                    have hfz40_0 := blk_frozen BK307.out 0
                    have hfz40_1 := blk_frozen BK307.out 1
                    have hfz40_2 := blk_frozen BK307.out 2
                    have hfz40_3 := blk_frozen BK307.out 3
                    have p316 : 0 ≤ (x13_2 : Int) := of_decide_eq_true (by first | (with_reducible assumption) | assumption)
                    have q316 : x13_2 < (l0_3.length : Int) := of_decide_eq_true (by first | (with_reducible assumption) | assumption)
                    obtain ⟨ad316, A316_3, c316_3, e316, hx316_0, hx316_1, hx316_2, hx316_3, hl316_3, hi316_3⟩ := at_T44 HR0_3.out x13_2 p316 q316
                    cases e316
                    replace hx316_0 := (HB.out.cell (World.block_lt_of_cell? w _ hx316_0)).trans hx316_0
                    replace hx316_1 := (HB.out.cell (World.block_lt_of_cell? w _ hx316_1)).trans hx316_1
                    replace hx316_2 := (HB.out.cell (World.block_lt_of_cell? w _ hx316_2)).trans hx316_2
                    replace hx316_3 := (HB.out.cell (World.block_lt_of_cell? w _ hx316_3)).trans hx316_3
                    have HR316_3 := Aside0.mk hi316_3
                    have HC316_3 := Aside0.mk hl316_3
                    clear hi316_3 hl316_3
                    replace p316 := eq_true p316
                    replace q316 := eq_true q316
                    go_wp2_with (first | (go_at_call 36; (with_reducible refine (wire_Put.calls ((rd_T44 l0_3 x13_2).f0) ((rd_T44 l0_3 x13_2).f1) ((rd_T44 l0_3 x13_2).f2) _ _ ((rd_T44 l0_3 x13_2).f3) t317 t318 _ ?side1 ?side2 A34.out).mono ?_); (case side1 => repeat (first | exact (Kd.C_below HR316_3.out HB.out) | (with_reducible refine Kd.C_alloc ?_ _) | (with_reducible refine Kd.C_drewN ?_ _) | (with_reducible refine Kd.C_drew ?_))); (case side2 => exact HC316_3.out); rintro e w41 ⟨rfl, hb⟩; have n0_ := Aside0.mk (blk_below (g := gb307) (o := .cells #[.bool a0_0, .int .i64 a0_1, .string a0_2, .slice (some ad316) l0_3.length c0_3] 44 (0, 0)) (by (with_reducible repeat (first | refine blk_drewN ?_ _ | refine blk_drew ?_ | refine blk_alloc ?_ _)); exact BK307.out) hb); have n1_ := Aside0.mk (blk_below (g := gb313) (o := .cells #[.bool a0_0, .int .i64 a1, .string a0_2, .slice (some ad316) l0_3.length c0_3] 44 (0, 0)) (by (with_reducible repeat (first | refine blk_drewN ?_ _ | refine blk_drew ?_ | refine blk_alloc ?_ _)); exact BK313.out) hb); have n2_ := Aside0.mk (below_step (by repeat (first | (with_reducible first | exact HB.out | apply below_alloc | apply pw_below_drewN | apply below_drew1 | refine below_set ?_ GE307.out | refine below_set ?_ GE313.out) | exact HB.out)) hb); clear BK307; clear BK313; clear HB; have BK307 := n0_; have BK313 := n1_; have HB := n2_; clear n0_ n1_ n2_; (try clear hb); (try clear hb2); (try clear hk); (try clear hi)))
                    repeat (go_quiet (first | (go_at_call 36; (with_reducible refine (wire_Put.calls ((rd_T44 l0_3 x13_2).f0) ((rd_T44 l0_3 x13_2).f1) ((rd_T44 l0_3 x13_2).f2) _ _ ((rd_T44 l0_3 x13_2).f3) t317 t318 _ ?side1 ?side2 A34.out).mono ?_); (case side1 => repeat (first | exact (Kd.C_below HR316_3.out HB.out) | (with_reducible refine Kd.C_alloc ?_ _) | (with_reducible refine Kd.C_drewN ?_ _) | (with_reducible refine Kd.C_drew ?_))); (case side2 => exact HC316_3.out); rintro e w41 ⟨rfl, hb⟩; have n0_ := Aside0.mk (blk_below (g := gb307) (o := .cells #[.bool a0_0, .int .i64 a0_1, .string a0_2, .slice (some ad316) l0_3.length c0_3] 44 (0, 0)) (by (with_reducible repeat (first | refine blk_drewN ?_ _ | refine blk_drew ?_ | refine blk_alloc ?_ _)); exact BK307.out) hb); have n1_ := Aside0.mk (blk_below (g := gb313) (o := .cells #[.bool a0_0, .int .i64 a1, .string a0_2, .slice (some ad316) l0_3.length c0_3] 44 (0, 0)) (by (with_reducible repeat (first | refine blk_drewN ?_ _ | refine blk_drew ?_ | refine blk_alloc ?_ _)); exact BK313.out) hb); have n2_ := Aside0.mk (below_step (by repeat (first | (with_reducible first | exact HB.out | apply below_alloc | apply pw_below_drewN | apply below_drew1 | refine below_set ?_ GE307.out | refine below_set ?_ GE313.out) | exact HB.out)) hb); clear BK307; clear BK313; clear HB; have BK307 := n0_; have BK313 := n1_; have HB := n2_; clear n0_ n1_ n2_; (try clear hb); (try clear hb2); (try clear hk); (try clear hi))); try go_wp2_with (first | (go_at_call 36; (with_reducible refine (wire_Put.calls ((rd_T44 l0_3 x13_2).f0) ((rd_T44 l0_3 x13_2).f1) ((rd_T44 l0_3 x13_2).f2) _ _ ((rd_T44 l0_3 x13_2).f3) t317 t318 _ ?side1 ?side2 A34.out).mono ?_); (case side1 => repeat (first | exact (Kd.C_below HR316_3.out HB.out) | (with_reducible refine Kd.C_alloc ?_ _) | (with_reducible refine Kd.C_drewN ?_ _) | (with_reducible refine Kd.C_drew ?_))); (case side2 => exact HC316_3.out); rintro e w41 ⟨rfl, hb⟩; have n0_ := Aside0.mk (blk_below (g := gb307) (o := .cells #[.bool a0_0, .int .i64 a0_1, .string a0_2, .slice (some ad316) l0_3.length c0_3] 44 (0, 0)) (by (with_reducible repeat (first | refine blk_drewN ?_ _ | refine blk_drew ?_ | refine blk_alloc ?_ _)); exact BK307.out) hb); have n1_ := Aside0.mk (blk_below (g := gb313) (o := .cells #[.bool a0_0, .int .i64 a1, .string a0_2, .slice (some ad316) l0_3.length c0_3] 44 (0, 0)) (by (with_reducible repeat (first | refine blk_drewN ?_ _ | refine blk_drew ?_ | refine blk_alloc ?_ _)); exact BK313.out) hb); have n2_ := Aside0.mk (below_step (by repeat (first | (with_reducible first | exact HB.out | apply below_alloc | apply pw_below_drewN | apply below_drew1 | refine below_set ?_ GE307.out | refine below_set ?_ GE313.out) | exact HB.out)) hb); clear BK307; clear BK313; clear HB; have BK307 := n0_; have BK313 := n1_; have HB := n2_; clear n0_ n1_ n2_; (try clear hb); (try clear hb2); (try clear hk); (try clear hi))))
                    go_ret
                    exact ⟨by first | rfl | (simp [errW_none, errW_some] <;> rfl) | (simp [*, errW_none, errW_some] <;> rfl), by repeat (first | (with_reducible first | exact HB.out | apply below_alloc | apply pw_below_drewN | apply below_drew1 | refine below_set ?_ GE307.out | refine below_set ?_ GE313.out) | exact HB.out)⟩
                · rw [if_neg c33] at H
                  exact absurd H (by simp)
              · rw [if_neg c32] at H
                have c32b0 : decide (x13_2 < (l0_3.length : Int)) = false := decide_eq_false c32
                clear c32
                by_cases c42 : x12_2 > 127
                · rw [if_pos c42] at H
                  have c42b0 : decide (127 < x12_2) = true := decide_eq_true c42
                  clear c42
                  by_cases c43 : x12_2 > 16383
                  · rw [if_pos c43] at H
                    have c43b0 : decide (16383 < x12_2) = true := decide_eq_true c43
                    clear c43
                    by_cases c44 : true = true
                    · clear c44
                      have H1 : (if t312 = 0 then (if t315 = 0 then (if (t311.size : Int) = (wrap64 ((1 + 3) + x12_2)) then (if (t314.size : Int) = (t311.size : Int) then (if 1 ≤ (t311.size : Int) then (if 1 ≤ (t314.size : Int) then (if (t311.extract 1 t311.size).toList = (t314.extract 1 t314.size).toList then (if 0 < (t314.size : Int) then (if 0 < (t311.size : Int) then (some ((wrap64 ((wrap64 (bt t314 0)) - (wrap64 (bt t311 0)))) == (wrap64 (a1 - a0_1)))) else (none)) else (none)) else (some false)) else (none)) else (none)) else (some false)) else (some false)) else (some false)) else (some false)) = some r := by first | (rw [if_pos rfl] at H; exact H) | (rw [if_pos trivial] at H; exact H) | simpa using H
                      clear H
                      have H := H1
                      clear H1
                      by_cases c45 : t312 = 0
                      · rw [if_pos c45] at H
                        have c45b0 : (t312 == 0) = true := beq_iff_eq.mpr c45
                        have c45b1 : (t312 != 0) = false := bne_eq_false_iff_eq.mpr c45
                        clear c45
                        by_cases c46 : t315 = 0
                        · rw [if_pos c46] at H
                          have c46b0 : (t315 == 0) = true := beq_iff_eq.mpr c46
                          have c46b1 : (t315 != 0) = false := bne_eq_false_iff_eq.mpr c46
                          clear c46
                          by_cases c47 : (t311.size : Int) = (wrap64 ((1 + 3) + x12_2))
                          · rw [if_pos c47] at H
                            have c47b0 : ((t311.size : Int) == (wrap64 ((1 + 3) + x12_2))) = true := beq_iff_eq.mpr c47
                            have c47b0z : ((t311.size : Int) == (wrap64 (4 + x12_2))) = true := c47b0
                            have c47b1 : ((t311.size : Int) != (wrap64 ((1 + 3) + x12_2))) = false := bne_eq_false_iff_eq.mpr c47
                            have c47b1z : ((t311.size : Int) != (wrap64 (4 + x12_2))) = false := c47b1
                            clear c47
                            by_cases c48 : (t314.size : Int) = (t311.size : Int)
                            · rw [if_pos c48] at H
                              have c48b0 : ((t314.size : Int) == (t311.size : Int)) = true := beq_iff_eq.mpr c48
                              have c48b1 : ((t314.size : Int) != (t311.size : Int)) = false := bne_eq_false_iff_eq.mpr c48
                              have c48b2 : (t314.size == t311.size) = true := by first | simpa using c48 | (simp at c48 ⊢; omega)
                              clear c48
                              by_cases c49 : 1 ≤ (t311.size : Int)
                              · rw [if_pos c49] at H
                                have c49b0 := eq_true c49
                                have c49b1 : decide (1 ≤ (t311.size : Int)) = true := decide_eq_true c49
                                clear c49
                                by_cases c50 : 1 ≤ (t314.size : Int)
                                · rw [if_pos c50] at H
                                  have c50b0 := eq_true c50
                                  have c50b1 : decide (1 ≤ (t314.size : Int)) = true := decide_eq_true c50
                                  clear c50
                                  by_cases c51 : (t311.extract 1 t311.size).toList = (t314.extract 1 t314.size).toList
                                  · rw [if_pos c51] at H
                                    have c51b0 : ((t311.extract 1 t311.size).toList == (t314.extract 1 t314.size).toList) = true := beq_iff_eq.mpr c51
                                    have c51b1 : ((t311.extract 1 t311.size).toList != (t314.extract 1 t314.size).toList) = false := bne_eq_false_iff_eq.mpr c51
                                    clear c51
                                    by_cases c52 : 0 < (t314.size : Int)
                                    · rw [if_pos c52] at H
                                      have c52b0 : decide (0 < (t314.size : Int)) = true := decide_eq_true c52
                                      have c52b1 : decide (0 < t314.size) = true := decide_eq_true (by omega)
                                      clear c52
                                      by_cases c54 : 0 < (t311.size : Int)
                                      · rw [if_pos c54] at H
                                        have c54b0 : decide (0 < (t311.size : Int)) = true := decide_eq_true c54
                                        have c54b1 : decide (0 < t311.size) = true := decide_eq_true (by omega)
                                        clear c54
                                        obtain rfl := Option.some.inj H
                                        have hnb56 := NB307_313.out
                                        have hnc56 := NB313_307.out
                                        have hcz57_0 : wr.cell? ⟨gb307, 0, none⟩ = some (.bool a0_0) := (blk_cell BK307.out 0).trans rfl
                                        have hcz57_1 : wr.cell? ⟨gb307, 1, none⟩ = some (.int .i64 a0_1) := (blk_cell BK307.out 1).trans rfl
                                        have hcz57_2 : wr.cell? ⟨gb307, 2, none⟩ = some (.string a0_2) := (blk_cell BK307.out 2).trans rfl
                                        have hcz57_3 : wr.cell? ⟨gb307, 3, none⟩ = some (.slice A0_3 l0_3.length c0_3) := (blk_cell BK307.out 3).trans rfl
                                        have hfz57_0 := blk_frozen BK307.out 0
                                        have hfz57_1 := blk_frozen BK307.out 1
                                        have hfz57_2 := blk_frozen BK307.out 2
                                        have hfz57_3 := blk_frozen BK307.out 3
                                        have p53 : 0 ≤ (0 : Int) := (by omega)
                                        have q53 : 0 < t314.size := (by have : (0 : Int) < (t314.size : Int) := of_decide_eq_true (by first | (with_reducible assumption) | assumption); omega)
                                        have hx53 : ∀ h : 0 < t314.size, ((t314[0]'h).toNat : Int) = bt t314 0 := bt_at t314 0
                                        clear p53
                                        have qi53 : (0 < (t314.size : Int)) = True := eq_true (of_decide_eq_true (by first | (with_reducible assumption) | assumption))
                                        replace q53 := eq_true q53
                                        have p55 : 0 ≤ (0 : Int) := (by omega)
                                        have q55 : 0 < t311.size := (by have : (0 : Int) < (t311.size : Int) := of_decide_eq_true (by first | (with_reducible assumption) | assumption); omega)
                                        have hx55 : ∀ h : 0 < t311.size, ((t311[0]'h).toNat : Int) = bt t311 0 := bt_at t311 0
                                        clear p55
                                        have qi55 : (0 < (t311.size : Int)) = True := eq_true (of_decide_eq_true (by first | (with_reducible assumption) | assumption))
                                        replace q55 := eq_true q55
                                        go_wp2
                                        repeat (go_quiet (fail); try go_wp2)
                                        go_ret
                                        exact ⟨by first | rfl | (simp [errW_none, errW_some] <;> rfl) | (simp [*, errW_none, errW_some] <;> rfl), by repeat (first | (with_reducible first | exact HB.out | apply below_alloc | apply pw_below_drewN | apply below_drew1 | refine below_set ?_ GE307.out | refine below_set ?_ GE313.out) | exact HB.out)⟩
                                      · rw [if_neg c54] at H
                                        exact absurd H (by simp)
                                    · rw [if_neg c52] at H
                                      exact absurd H (by simp)
                                  · rw [if_neg c51] at H
                                    have c51b0 : ((t311.extract 1 t311.size).toList == (t314.extract 1 t314.size).toList) = false := beq_eq_false_iff_ne.mpr c51
                                    have c51b1 : ((t311.extract 1 t311.size).toList != (t314.extract 1 t314.size).toList) = true := bne_iff_ne.mpr c51
                                    obtain rfl := Option.some.inj H
                                    have hnb58 := NB307_313.out
                                    have hnc58 := NB313_307.out
                                    have hcz59_0 : wr.cell? ⟨gb307, 0, none⟩ = some (.bool a0_0) := (blk_cell BK307.out 0).trans rfl
                                    have hcz59_1 : wr.cell? ⟨gb307, 1, none⟩ = some (.int .i64 a0_1) := (blk_cell BK307.out 1).trans rfl
                                    have hcz59_2 : wr.cell? ⟨gb307, 2, none⟩ = some (.string a0_2) := (blk_cell BK307.out 2).trans rfl
                                    have hcz59_3 : wr.cell? ⟨gb307, 3, none⟩ = some (.slice A0_3 l0_3.length c0_3) := (blk_cell BK307.out 3).trans rfl
                                    have hfz59_0 := blk_frozen BK307.out 0
                                    have hfz59_1 := blk_frozen BK307.out 1
                                    have hfz59_2 := blk_frozen BK307.out 2
                                    have hfz59_3 := blk_frozen BK307.out 3
                                    go_wp2
                                    repeat (go_quiet (fail); try go_wp2)
                                    go_ret
                                    exact ⟨by first | rfl | (simp [errW_none, errW_some] <;> rfl) | (simp [*, errW_none, errW_some] <;> rfl), by repeat (first | (with_reducible first | exact HB.out | apply below_alloc | apply pw_below_drewN | apply below_drew1 | refine below_set ?_ GE307.out | refine below_set ?_ GE313.out) | exact HB.out)⟩
                                · rw [if_neg c50] at H
                                  exact absurd H (by simp)
                              · rw [if_neg c49] at H
                                exact absurd H (by simp)
                            · rw [if_neg c48] at H
                              have c48b0 : ((t314.size : Int) == (t311.size : Int)) = false := beq_eq_false_iff_ne.mpr c48
                              have c48b1 : ((t314.size : Int) != (t311.size : Int)) = true := bne_iff_ne.mpr c48
                              have c48b2 : (t314.size == t311.size) = false := by first | simpa using c48 | (simp at c48 ⊢; omega)
                              obtain rfl := Option.some.inj H
                              have hnb60 := NB307_313.out
                              have hnc60 := NB313_307.out
                              have hcz61_0 : wr.cell? ⟨gb307, 0, none⟩ = some (.bool a0_0) := (blk_cell BK307.out 0).trans rfl
                              have hcz61_1 : wr.cell? ⟨gb307, 1, none⟩ = some (.int .i64 a0_1) := (blk_cell BK307.out 1).trans rfl
                              have hcz61_2 : wr.cell? ⟨gb307, 2, none⟩ = some (.string a0_2) := (blk_cell BK307.out 2).trans rfl
                              have hcz61_3 : wr.cell? ⟨gb307, 3, none⟩ = some (.slice A0_3 l0_3.length c0_3) := (blk_cell BK307.out 3).trans rfl
                              have hfz61_0 := blk_frozen BK307.out 0
                              have hfz61_1 := blk_frozen BK307.out 1
                              have hfz61_2 := blk_frozen BK307.out 2
                              have hfz61_3 := blk_frozen BK307.out 3
                              go_wp2
                              repeat (go_quiet (fail); try go_wp2)
                              go_ret
                              exact ⟨by first | rfl | (simp [errW_none, errW_some] <;> rfl) | (simp [*, errW_none, errW_some] <;> rfl), by repeat (first | (with_reducible first | exact HB.out | apply below_alloc | apply pw_below_drewN | apply below_drew1 | refine below_set ?_ GE307.out | refine below_set ?_ GE313.out) | exact HB.out)⟩
                          · rw [if_neg c47] at H
                            have c47b0 : ((t311.size : Int) == (wrap64 ((1 + 3) + x12_2))) = false := beq_eq_false_iff_ne.mpr c47
                            have c47b0z : ((t311.size : Int) == (wrap64 (4 + x12_2))) = false := c47b0
                            have c47b1 : ((t311.size : Int) != (wrap64 ((1 + 3) + x12_2))) = true := bne_iff_ne.mpr c47
                            have c47b1z : ((t311.size : Int) != (wrap64 (4 + x12_2))) = true := c47b1
                            obtain rfl := Option.some.inj H
                            have hnb62 := NB307_313.out
                            have hnc62 := NB313_307.out
                            have hcz63_0 : wr.cell? ⟨gb307, 0, none⟩ = some (.bool a0_0) := (blk_cell BK307.out 0).trans rfl
                            have hcz63_1 : wr.cell? ⟨gb307, 1, none⟩ = some (.int .i64 a0_1) := (blk_cell BK307.out 1).trans rfl
                            have hcz63_2 : wr.cell? ⟨gb307, 2, none⟩ = some (.string a0_2) := (blk_cell BK307.out 2).trans rfl
                            have hcz63_3 : wr.cell? ⟨gb307, 3, none⟩ = some (.slice A0_3 l0_3.length c0_3) := (blk_cell BK307.out 3).trans rfl
                            have hfz63_0 := blk_frozen BK307.out 0
                            have hfz63_1 := blk_frozen BK307.out 1
                            have hfz63_2 := blk_frozen BK307.out 2
                            have hfz63_3 := blk_frozen BK307.out 3
                            go_wp2
                            repeat (go_quiet (fail); try go_wp2)
                            go_ret
                            exact ⟨by first | rfl | (simp [errW_none, errW_some] <;> rfl) | (simp [*, errW_none, errW_some] <;> rfl), by repeat (first | (with_reducible first | exact HB.out | apply below_alloc | apply pw_below_drewN | apply below_drew1 | refine below_set ?_ GE307.out | refine below_set ?_ GE313.out) | exact HB.out)⟩
                        · rw [if_neg c46] at H
                          have c46b0 : (t315 == 0) = false := beq_eq_false_iff_ne.mpr c46
                          have c46b1 : (t315 != 0) = true := bne_iff_ne.mpr c46
                          obtain rfl := Option.some.inj H
                          have hnb64 := NB307_313.out
                          have hnc64 := NB313_307.out
                          have hcz65_0 : wr.cell? ⟨gb307, 0, none⟩ = some (.bool a0_0) := (blk_cell BK307.out 0).trans rfl
                          have hcz65_1 : wr.cell? ⟨gb307, 1, none⟩ = some (.int .i64 a0_1) := (blk_cell BK307.out 1).trans rfl
                          have hcz65_2 : wr.cell? ⟨gb307, 2, none⟩ = some (.string a0_2) := (blk_cell BK307.out 2).trans rfl
                          have hcz65_3 : wr.cell? ⟨gb307, 3, none⟩ = some (.slice A0_3 l0_3.length c0_3) := (blk_cell BK307.out 3).trans rfl
                          have hfz65_0 := blk_frozen BK307.out 0
                          have hfz65_1 := blk_frozen BK307.out 1
                          have hfz65_2 := blk_frozen BK307.out 2
                          have hfz65_3 := blk_frozen BK307.out 3
                          go_wp2
                          repeat (go_quiet (fail); try go_wp2)
                          go_ret
                          exact ⟨by first | rfl | (simp [errW_none, errW_some] <;> rfl) | (simp [*, errW_none, errW_some] <;> rfl), by repeat (first | (with_reducible first | exact HB.out | apply below_alloc | apply pw_below_drewN | apply below_drew1 | refine below_set ?_ GE307.out | refine below_set ?_ GE313.out) | exact HB.out)⟩
                      · rw [if_neg c45] at H
                        have c45b0 : (t312 == 0) = false := beq_eq_false_iff_ne.mpr c45
                        have c45b1 : (t312 != 0) = true := bne_iff_ne.mpr c45
                        obtain rfl := Option.some.inj H
                        have hnb66 := NB307_313.out
                        have hnc66 := NB313_307.out
                        have hcz67_0 : wr.cell? ⟨gb307, 0, none⟩ = some (.bool a0_0) := (blk_cell BK307.out 0).trans rfl
                        have hcz67_1 : wr.cell? ⟨gb307, 1, none⟩ = some (.int .i64 a0_1) := (blk_cell BK307.out 1).trans rfl
                        have hcz67_2 : wr.cell? ⟨gb307, 2, none⟩ = some (.string a0_2) := (blk_cell BK307.out 2).trans rfl
                        have hcz67_3 : wr.cell? ⟨gb307, 3, none⟩ = some (.slice A0_3 l0_3.length c0_3) := (blk_cell BK307.out 3).trans rfl
                        have hfz67_0 := blk_frozen BK307.out 0
                        have hfz67_1 := blk_frozen BK307.out 1
                        have hfz67_2 := blk_frozen BK307.out 2
                        have hfz67_3 := blk_frozen BK307.out 3
                        go_wp2
                        repeat (go_quiet (fail); try go_wp2)
                        go_ret
                        exact ⟨by first | rfl | (simp [errW_none, errW_some] <;> rfl) | (simp [*, errW_none, errW_some] <;> rfl), by repeat (first | (with_reducible first | exact HB.out | apply below_alloc | apply pw_below_drewN | apply below_drew1 | refine below_set ?_ GE307.out | refine below_set ?_ GE313.out) | exact HB.out)⟩
                    · exact absurd rfl c44
                  · rw [if_neg c43] at H
                    have c43b0 : decide (16383 < x12_2) = false := decide_eq_false c43
                    clear c43
                    by_cases c70 : true = true
                    · clear c70
                      have H1 : (if t312 = 0 then (if t315 = 0 then (if (t311.size : Int) = (wrap64 ((1 + 2) + x12_2)) then (if (t314.size : Int) = (t311.size : Int) then (if 1 ≤ (t311.size : Int) then (if 1 ≤ (t314.size : Int) then (if (t311.extract 1 t311.size).toList = (t314.extract 1 t314.size).toList then (if 0 < (t314.size : Int) then (if 0 < (t311.size : Int) then (some ((wrap64 ((wrap64 (bt t314 0)) - (wrap64 (bt t311 0)))) == (wrap64 (a1 - a0_1)))) else (none)) else (none)) else (some false)) else (none)) else (none)) else (some false)) else (some false)) else (some false)) else (some false)) = some r := by first | (rw [if_pos rfl] at H; exact H) | (rw [if_pos trivial] at H; exact H) | simpa using H
                      clear H
                      have H := H1
                      clear H1
                      by_cases c71 : t312 = 0
                      · rw [if_pos c71] at H
                        have c71b0 : (t312 == 0) = true := beq_iff_eq.mpr c71
                        have c71b1 : (t312 != 0) = false := bne_eq_false_iff_eq.mpr c71
                        clear c71
                        by_cases c72 : t315 = 0
                        · rw [if_pos c72] at H
                          have c72b0 : (t315 == 0) = true := beq_iff_eq.mpr c72
                          have c72b1 : (t315 != 0) = false := bne_eq_false_iff_eq.mpr c72
                          clear c72
                          by_cases c73 : (t311.size : Int) = (wrap64 ((1 + 2) + x12_2))
                          · rw [if_pos c73] at H
                            have c73b0 : ((t311.size : Int) == (wrap64 ((1 + 2) + x12_2))) = true := beq_iff_eq.mpr c73
                            have c73b0z : ((t311.size : Int) == (wrap64 (3 + x12_2))) = true := c73b0
                            have c73b1 : ((t311.size : Int) != (wrap64 ((1 + 2) + x12_2))) = false := bne_eq_false_iff_eq.mpr c73
                            have c73b1z : ((t311.size : Int) != (wrap64 (3 + x12_2))) = false := c73b1
                            clear c73
                            by_cases c74 : (t314.size : Int) = (t311.size : Int)
                            · rw [if_pos c74] at H
                              have c74b0 : ((t314.size : Int) == (t311.size : Int)) = true := beq_iff_eq.mpr c74
                              have c74b1 : ((t314.size : Int) != (t311.size : Int)) = false := bne_eq_false_iff_eq.mpr c74
                              have c74b2 : (t314.size == t311.size) = true := by first | simpa using c74 | (simp at c74 ⊢; omega)
                              clear c74
                              by_cases c75 : 1 ≤ (t311.size : Int)
                              · rw [if_pos c75] at H
                                have c75b0 := eq_true c75
                                have c75b1 : decide (1 ≤ (t311.size : Int)) = true := decide_eq_true c75
                                clear c75
                                by_cases c76 : 1 ≤ (t314.size : Int)
                                · rw [if_pos c76] at H
                                  have c76b0 := eq_true c76
                                  have c76b1 : decide (1 ≤ (t314.size : Int)) = true := decide_eq_true c76
                                  clear c76
                                  by_cases c77 : (t311.extract 1 t311.size).toList = (t314.extract 1 t314.size).toList
                                  · rw [if_pos c77] at H
                                    have c77b0 : ((t311.extract 1 t311.size).toList == (t314.extract 1 t314.size).toList) = true := beq_iff_eq.mpr c77
                                    have c77b1 : ((t311.extract 1 t311.size).toList != (t314.extract 1 t314.size).toList) = false := bne_eq_false_iff_eq.mpr c77
                                    clear c77
                                    by_cases c78 : 0 < (t314.size : Int)
                                    · rw [if_pos c78] at H
                                      have c78b0 : decide (0 < (t314.size : Int)) = true := decide_eq_true c78
                                      have c78b1 : decide (0 < t314.size) = true := decide_eq_true (by omega)
                                      clear c78
                                      by_cases c80 : 0 < (t311.size : Int)
                                      · rw [if_pos c80] at H
                                        have c80b0 : decide (0 < (t311.size : Int)) = true := decide_eq_true c80
                                        have c80b1 : decide (0 < t311.size) = true := decide_eq_true (by omega)
                                        clear c80
                                        obtain rfl := Option.some.inj H
                                        have hnb82 := NB307_313.out
                                        have hnc82 := NB313_307.out
                                        have hcz83_0 : wr.cell? ⟨gb307, 0, none⟩ = some (.bool a0_0) := (blk_cell BK307.out 0).trans rfl
                                        have hcz83_1 : wr.cell? ⟨gb307, 1, none⟩ = some (.int .i64 a0_1) := (blk_cell BK307.out 1).trans rfl
                                        have hcz83_2 : wr.cell? ⟨gb307, 2, none⟩ = some (.string a0_2) := (blk_cell BK307.out 2).trans rfl
                                        have hcz83_3 : wr.cell? ⟨gb307, 3, none⟩ = some (.slice A0_3 l0_3.length c0_3) := (blk_cell BK307.out 3).trans rfl
                                        have hfz83_0 := blk_frozen BK307.out 0
                                        have hfz83_1 := blk_frozen BK307.out 1
                                        have hfz83_2 := blk_frozen BK307.out 2
                                        have hfz83_3 := blk_frozen BK307.out 3
                                        have p79 : 0 ≤ (0 : Int) := (by omega)
                                        have q79 : 0 < t314.size := (by have : (0 : Int) < (t314.size : Int) := of_decide_eq_true (by first | (with_reducible assumption) | assumption); omega)
                                        have hx79 : ∀ h : 0 < t314.size, ((t314[0]'h).toNat : Int) = bt t314 0 := bt_at t314 0
                                        clear p79
                                        have qi79 : (0 < (t314.size : Int)) = True := eq_true (of_decide_eq_true (by first | (with_reducible assumption) | assumption))
                                        replace q79 := eq_true q79
                                        have p81 : 0 ≤ (0 : Int) := (by omega)
                                        have q81 : 0 < t311.size := (by have : (0 : Int) < (t311.size : Int) := of_decide_eq_true (by first | (with_reducible assumption) | assumption); omega)
                                        have hx81 : ∀ h : 0 < t311.size, ((t311[0]'h).toNat : Int) = bt t311 0 := bt_at t311 0
                                        clear p81
                                        have qi81 : (0 < (t311.size : Int)) = True := eq_true (of_decide_eq_true (by first | (with_reducible assumption) | assumption))
                                        replace q81 := eq_true q81
                                        go_wp2
                                        repeat (go_quiet (fail); try go_wp2)
                                        go_ret
                                        exact ⟨by first | rfl | (simp [errW_none, errW_some] <;> rfl) | (simp [*, errW_none, errW_some] <;> rfl), by repeat (first | (with_reducible first | exact HB.out | apply below_alloc | apply pw_below_drewN | apply below_drew1 | refine below_set ?_ GE307.out | refine below_set ?_ GE313.out) | exact HB.out)⟩
                                      · rw [if_neg c80] at H
                                        exact absurd H (by simp)
                                    · rw [if_neg c78] at H
                                      exact absurd H (by simp)
                                  · rw [if_neg c77] at H
                                    have c77b0 : ((t311.extract 1 t311.size).toList == (t314.extract 1 t314.size).toList) = false := beq_eq_false_iff_ne.mpr c77
                                    have c77b1 : ((t311.extract 1 t311.size).toList != (t314.extract 1 t314.size).toList) = true := bne_iff_ne.mpr c77
                                    obtain rfl := Option.some.inj H
                                    have hnb84 := NB307_313.out
                                    have hnc84 := NB313_307.out
                                    have hcz85_0 : wr.cell? ⟨gb307, 0, none⟩ = some (.bool a0_0) := (blk_cell BK307.out 0).trans rfl
                                    have hcz85_1 : wr.cell? ⟨gb307, 1, none⟩ = some (.int .i64 a0_1) := (blk_cell BK307.out 1).trans rfl
                                    have hcz85_2 : wr.cell? ⟨gb307, 2, none⟩ = some (.string a0_2) := (blk_cell BK307.out 2).trans rfl
                                    have hcz85_3 : wr.cell? ⟨gb307, 3, none⟩ = some (.slice A0_3 l0_3.length c0_3) := (blk_cell BK307.out 3).trans rfl
                                    have hfz85_0 := blk_frozen BK307.out 0
                                    have hfz85_1 := blk_frozen BK307.out 1
                                    have hfz85_2 := blk_frozen BK307.out 2
                                    have hfz85_3 := blk_frozen BK307.out 3
                                    go_wp2
                                    repeat (go_quiet (fail); try go_wp2)
                                    go_ret
                                    exact ⟨by first | rfl | (simp [errW_none, errW_some] <;> rfl) | (simp [*, errW_none, errW_some] <;> rfl), by repeat (first | (with_reducible first | exact HB.out | apply below_alloc | apply pw_below_drewN | apply below_drew1 | refine below_set ?_ GE307.out | refine below_set ?_ GE313.out) | exact HB.out)⟩
                                · rw [if_neg c76] at H
                                  exact absurd H (by simp)
                              · rw [if_neg c75] at H
                                exact absurd H (by simp)
                            · rw [if_neg c74] at H
                              have c74b0 : ((t314.size : Int) == (t311.size : Int)) = false := beq_eq_false_iff_ne.mpr c74
                              have c74b1 : ((t314.size : Int) != (t311.size : Int)) = true := bne_iff_ne.mpr c74
                              have c74b2 : (t314.size == t311.size) = false := by first | simpa using c74 | (simp at c74 ⊢; omega)
                              obtain rfl := Option.some.inj H
                              have hnb86 := NB307_313.out
                              have hnc86 := NB313_307.out
                              have hcz87_0 : wr.cell? ⟨gb307, 0, none⟩ = some (.bool a0_0) := (blk_cell BK307.out 0).trans rfl
                              have hcz87_1 : wr.cell? ⟨gb307, 1, none⟩ = some (.int .i64 a0_1) := (blk_cell BK307.out 1).trans rfl
                              have hcz87_2 : wr.cell? ⟨gb307, 2, none⟩ = some (.string a0_2) := (blk_cell BK307.out 2).trans rfl
                              have hcz87_3 : wr.cell? ⟨gb307, 3, none⟩ = some (.slice A0_3 l0_3.length c0_3) := (blk_cell BK307.out 3).trans rfl
                              have hfz87_0 := blk_frozen BK307.out 0
                              have hfz87_1 := blk_frozen BK307.out 1
                              have hfz87_2 := blk_frozen BK307.out 2
                              have hfz87_3 := blk_frozen BK307.out 3
                              go_wp2
                              repeat (go_quiet (fail); try go_wp2)
                              go_ret
                              exact ⟨by first | rfl | (simp [errW_none, errW_some] <;> rfl) | (simp [*, errW_none, errW_some] <;> rfl), by repeat (first | (with_reducible first | exact HB.out | apply below_alloc | apply pw_below_drewN | apply below_drew1 | refine below_set ?_ GE307.out | refine below_set ?_ GE313.out) | exact HB.out)⟩
                          · rw [if_neg c73] at H
                            have c73b0 : ((t311.size : Int) == (wrap64 ((1 + 2) + x12_2))) = false := beq_eq_false_iff_ne.mpr c73
                            have c73b0z : ((t311.size : Int) == (wrap64 (3 + x12_2))) = false := c73b0
                            have c73b1 : ((t311.size : Int) != (wrap64 ((1 + 2) + x12_2))) = true := bne_iff_ne.mpr c73
                            have c73b1z : ((t311.size : Int) != (wrap64 (3 + x12_2))) = true := c73b1
                            obtain rfl := Option.some.inj H
                            have hnb88 := NB307_313.out
                            have hnc88 := NB313_307.out
                            have hcz89_0 : wr.cell? ⟨gb307, 0, none⟩ = some (.bool a0_0) := (blk_cell BK307.out 0).trans rfl
                            have hcz89_1 : wr.cell? ⟨gb307, 1, none⟩ = some (.int .i64 a0_1) := (blk_cell BK307.out 1).trans rfl
                            have hcz89_2 : wr.cell? ⟨gb307, 2, none⟩ = some (.string a0_2) := (blk_cell BK307.out 2).trans rfl
                            have hcz89_3 : wr.cell? ⟨gb307, 3, none⟩ = some (.slice A0_3 l0_3.length c0_3) := (blk_cell BK307.out 3).trans rfl
                            have hfz89_0 := blk_frozen BK307.out 0
                            have hfz89_1 := blk_frozen BK307.out 1
                            have hfz89_2 := blk_frozen BK307.out 2
                            have hfz89_3 := blk_frozen BK307.out 3
                            go_wp2
                            repeat (go_quiet (fail); try go_wp2)
                            go_ret
                            exact ⟨by first | rfl | (simp [errW_none, errW_some] <;> rfl) | (simp [*, errW_none, errW_some] <;> rfl), by repeat (first | (with_reducible first | exact HB.out | apply below_alloc | apply pw_below_drewN | apply below_drew1 | refine below_set ?_ GE307.out | refine below_set ?_ GE313.out) | exact HB.out)⟩
                        · rw [if_neg c72] at H
                          have c72b0 : (t315 == 0) = false := beq_eq_false_iff_ne.mpr c72
                          have c72b1 : (t315 != 0) = true := bne_iff_ne.mpr c72
                          obtain rfl := Option.some.inj H
                          have hnb90 := NB307_313.out
                          have hnc90 := NB313_307.out
                          have hcz91_0 : wr.cell? ⟨gb307, 0, none⟩ = some (.bool a0_0) := (blk_cell BK307.out 0).trans rfl
                          have hcz91_1 : wr.cell? ⟨gb307, 1, none⟩ = some (.int .i64 a0_1) := (blk_cell BK307.out 1).trans rfl
                          have hcz91_2 : wr.cell? ⟨gb307, 2, none⟩ = some (.string a0_2) := (blk_cell BK307.out 2).trans rfl
                          have hcz91_3 : wr.cell? ⟨gb307, 3, none⟩ = some (.slice A0_3 l0_3.length c0_3) := (blk_cell BK307.out 3).trans rfl
                          have hfz91_0 := blk_frozen BK307.out 0
                          have hfz91_1 := blk_frozen BK307.out 1
                          have hfz91_2 := blk_frozen BK307.out 2
                          have hfz91_3 := blk_frozen BK307.out 3
                          go_wp2
                          repeat (go_quiet (fail); try go_wp2)
                          go_ret
                          exact ⟨by first | rfl | (simp [errW_none, errW_some] <;> rfl) | (simp [*, errW_none, errW_some] <;> rfl), by repeat (first | (with_reducible first | exact HB.out | apply below_alloc | apply pw_below_drewN | apply below_drew1 | refine below_set ?_ GE307.out | refine below_set ?_ GE313.out) | exact HB.out)⟩
                      · rw [if_neg c71] at H
                        have c71b0 : (t312 == 0) = false := beq_eq_false_iff_ne.mpr c71
                        have c71b1 : (t312 != 0) = true := bne_iff_ne.mpr c71
                        obtain rfl := Option.some.inj H
                        have hnb92 := NB307_313.out
                        have hnc92 := NB313_307.out
                        have hcz93_0 : wr.cell? ⟨gb307, 0, none⟩ = some (.bool a0_0) := (blk_cell BK307.out 0).trans rfl
                        have hcz93_1 : wr.cell? ⟨gb307, 1, none⟩ = some (.int .i64 a0_1) := (blk_cell BK307.out 1).trans rfl
                        have hcz93_2 : wr.cell? ⟨gb307, 2, none⟩ = some (.string a0_2) := (blk_cell BK307.out 2).trans rfl
                        have hcz93_3 : wr.cell? ⟨gb307, 3, none⟩ = some (.slice A0_3 l0_3.length c0_3) := (blk_cell BK307.out 3).trans rfl
                        have hfz93_0 := blk_frozen BK307.out 0
                        have hfz93_1 := blk_frozen BK307.out 1
                        have hfz93_2 := blk_frozen BK307.out 2
                        have hfz93_3 := blk_frozen BK307.out 3
                        go_wp2
                        repeat (go_quiet (fail); try go_wp2)
                        go_ret
                        exact ⟨by first | rfl | (simp [errW_none, errW_some] <;> rfl) | (simp [*, errW_none, errW_some] <;> rfl), by repeat (first | (with_reducible first | exact HB.out | apply below_alloc | apply pw_below_drewN | apply below_drew1 | refine below_set ?_ GE307.out | refine below_set ?_ GE313.out) | exact HB.out)⟩
                    · exact absurd rfl c70
                · rw [if_neg c42] at H
                  have c42b0 : decide (127 < x12_2) = false := decide_eq_false c42
                  clear c42
                  by_cases c96 : x12_2 > 16383
                  · rw [if_pos c96] at H
                    have c96b0 : decide (16383 < x12_2) = true := decide_eq_true c96
                    clear c96
                    by_cases c97 : true = true
                    · clear c97
                      have H1 : (if t312 = 0 then (if t315 = 0 then (if (t311.size : Int) = (wrap64 ((1 + 3) + x12_2)) then (if (t314.size : Int) = (t311.size : Int) then (if 1 ≤ (t311.size : Int) then (if 1 ≤ (t314.size : Int) then (if (t311.extract 1 t311.size).toList = (t314.extract 1 t314.size).toList then (if 0 < (t314.size : Int) then (if 0 < (t311.size : Int) then (some ((wrap64 ((wrap64 (bt t314 0)) - (wrap64 (bt t311 0)))) == (wrap64 (a1 - a0_1)))) else (none)) else (none)) else (some false)) else (none)) else (none)) else (some false)) else (some false)) else (some false)) else (some false)) = some r := by first | (rw [if_pos rfl] at H; exact H) | (rw [if_pos trivial] at H; exact H) | simpa using H
                      clear H
                      have H := H1
                      clear H1
                      by_cases c98 : t312 = 0
                      · rw [if_pos c98] at H
                        have c98b0 : (t312 == 0) = true := beq_iff_eq.mpr c98
                        have c98b1 : (t312 != 0) = false := bne_eq_false_iff_eq.mpr c98
                        clear c98
                        by_cases c99 : t315 = 0
                        · rw [if_pos c99] at H
                          have c99b0 : (t315 == 0) = true := beq_iff_eq.mpr c99
                          have c99b1 : (t315 != 0) = false := bne_eq_false_iff_eq.mpr c99
                          clear c99
                          by_cases c100 : (t311.size : Int) = (wrap64 ((1 + 3) + x12_2))
                          · rw [if_pos c100] at H
                            have c100b0 : ((t311.size : Int) == (wrap64 ((1 + 3) + x12_2))) = true := beq_iff_eq.mpr c100
                            have c100b0z : ((t311.size : Int) == (wrap64 (4 + x12_2))) = true := c100b0
                            have c100b1 : ((t311.size : Int) != (wrap64 ((1 + 3) + x12_2))) = false := bne_eq_false_iff_eq.mpr c100
                            have c100b1z : ((t311.size : Int) != (wrap64 (4 + x12_2))) = false := c100b1
                            clear c100
                            by_cases c101 : (t314.size : Int) = (t311.size : Int)
                            · rw [if_pos c101] at H
                              have c101b0 : ((t314.size : Int) == (t311.size : Int)) = true := beq_iff_eq.mpr c101
                              have c101b1 : ((t314.size : Int) != (t311.size : Int)) = false := bne_eq_false_iff_eq.mpr c101
                              have c101b2 : (t314.size == t311.size) = true := by first | simpa using c101 | (simp at c101 ⊢; omega)
                              clear c101
                              by_cases c102 : 1 ≤ (t311.size : Int)
                              · rw [if_pos c102] at H
                                have c102b0 := eq_true c102
                                have c102b1 : decide (1 ≤ (t311.size : Int)) = true := decide_eq_true c102
                                clear c102
                                by_cases c103 : 1 ≤ (t314.size : Int)
                                · rw [if_pos c103] at H
                                  have c103b0 := eq_true c103
                                  have c103b1 : decide (1 ≤ (t314.size : Int)) = true := decide_eq_true c103
                                  clear c103
                                  by_cases c104 : (t311.extract 1 t311.size).toList = (t314.extract 1 t314.size).toList
                                  · rw [if_pos c104] at H
                                    have c104b0 : ((t311.extract 1 t311.size).toList == (t314.extract 1 t314.size).toList) = true := beq_iff_eq.mpr c104
                                    have c104b1 : ((t311.extract 1 t311.size).toList != (t314.extract 1 t314.size).toList) = false := bne_eq_false_iff_eq.mpr c104
                                    clear c104
                                    by_cases c105 : 0 < (t314.size : Int)
                                    · rw [if_pos c105] at H
                                      have c105b0 : decide (0 < (t314.size : Int)) = true := decide_eq_true c105
                                      have c105b1 : decide (0 < t314.size) = true := decide_eq_true (by omega)
                                      clear c105
                                      by_cases c107 : 0 < (t311.size : Int)
                                      · rw [if_pos c107] at H
                                        have c107b0 : decide (0 < (t311.size : Int)) = true := decide_eq_true c107
                                        have c107b1 : decide (0 < t311.size) = true := decide_eq_true (by omega)
                                        clear c107
                                        obtain rfl := Option.some.inj H
                                        have hnb109 := NB307_313.out
                                        have hnc109 := NB313_307.out
                                        have hcz110_0 : wr.cell? ⟨gb307, 0, none⟩ = some (.bool a0_0) := (blk_cell BK307.out 0).trans rfl
                                        have hcz110_1 : wr.cell? ⟨gb307, 1, none⟩ = some (.int .i64 a0_1) := (blk_cell BK307.out 1).trans rfl
                                        have hcz110_2 : wr.cell? ⟨gb307, 2, none⟩ = some (.string a0_2) := (blk_cell BK307.out 2).trans rfl
                                        have hcz110_3 : wr.cell? ⟨gb307, 3, none⟩ = some (.slice A0_3 l0_3.length c0_3) := (blk_cell BK307.out 3).trans rfl
                                        have hfz110_0 := blk_frozen BK307.out 0
                                        have hfz110_1 := blk_frozen BK307.out 1
                                        have hfz110_2 := blk_frozen BK307.out 2
                                        have hfz110_3 := blk_frozen BK307.out 3
                                        have p106 : 0 ≤ (0 : Int) := (by omega)
                                        have q106 : 0 < t314.size := (by have : (0 : Int) < (t314.size : Int) := of_decide_eq_true (by first | (with_reducible assumption) | assumption); omega)
                                        have hx106 : ∀ h : 0 < t314.size, ((t314[0]'h).toNat : Int) = bt t314 0 := bt_at t314 0
                                        clear p106
                                        have qi106 : (0 < (t314.size : Int)) = True := eq_true (of_decide_eq_true (by first | (with_reducible assumption) | assumption))
                                        replace q106 := eq_true q106
                                        have p108 : 0 ≤ (0 : Int) := (by omega)
                                        have q108 : 0 < t311.size := (by have : (0 : Int) < (t311.size : Int) := of_decide_eq_true (by first | (with_reducible assumption) | assumption); omega)
                                        have hx108 : ∀ h : 0 < t311.size, ((t311[0]'h).toNat : Int) = bt t311 0 := bt_at t311 0
                                        clear p108
                                        have qi108 : (0 < (t311.size : Int)) = True := eq_true (of_decide_eq_true (by first | (with_reducible assumption) | assumption))
                                        replace q108 := eq_true q108
                                        go_wp2
                                        repeat (go_quiet (fail); try go_wp2)
                                        go_ret
                                        exact ⟨by first | rfl | (simp [errW_none, errW_some] <;> rfl) | (simp [*, errW_none, errW_some] <;> rfl), by repeat (first | (with_reducible first | exact HB.out | apply below_alloc | apply pw_below_drewN | apply below_drew1 | refine below_set ?_ GE307.out | refine below_set ?_ GE313.out) | exact HB.out)⟩
                                      · rw [if_neg c107] at H
                                        exact absurd H (by simp)
                                    · rw [if_neg c105] at H
                                      exact absurd H (by simp)
                                  · rw [if_neg c104] at H
                                    have c104b0 : ((t311.extract 1 t311.size).toList == (t314.extract 1 t314.size).toList) = false := beq_eq_false_iff_ne.mpr c104
                                    have c104b1 : ((t311.extract 1 t311.size).toList != (t314.extract 1 t314.size).toList) = true := bne_iff_ne.mpr c104
                                    obtain rfl := Option.some.inj H
                                    have hnb111 := NB307_313.out
                                    have hnc111 := NB313_307.out
                                    have hcz112_0 : wr.cell? ⟨gb307, 0, none⟩ = some (.bool a0_0) := (blk_cell BK307.out 0).trans rfl
                                    have hcz112_1 : wr.cell? ⟨gb307, 1, none⟩ = some (.int .i64 a0_1) := (blk_cell BK307.out 1).trans rfl
                                    have hcz112_2 : wr.cell? ⟨gb307, 2, none⟩ = some (.string a0_2) := (blk_cell BK307.out 2).trans rfl
                                    have hcz112_3 : wr.cell? ⟨gb307, 3, none⟩ = some (.slice A0_3 l0_3.length c0_3) := (blk_cell BK307.out 3).trans rfl
                                    have hfz112_0 := blk_frozen BK307.out 0
                                    have hfz112_1 := blk_frozen BK307.out 1
                                    have hfz112_2 := blk_frozen BK307.out 2
                                    have hfz112_3 := blk_frozen BK307.out 3
                                    go_wp2
                                    repeat (go_quiet (fail); try go_wp2)
                                    go_ret
                                    exact ⟨by first | rfl | (simp [errW_none, errW_some] <;> rfl) | (simp [*, errW_none, errW_some] <;> rfl), by repeat (first | (with_reducible first | exact HB.out | apply below_alloc | apply pw_below_drewN | apply below_drew1 | refine below_set ?_ GE307.out | refine below_set ?_ GE313.out) | exact HB.out)⟩
                                · rw [if_neg c103] at H
                                  exact absurd H (by simp)
                              · rw [if_neg c102] at H
                                exact absurd H (by simp)
                            · rw [if_neg c101] at H
                              have c101b0 : ((t314.size : Int) == (t311.size : Int)) = false := beq_eq_false_iff_ne.mpr c101
                              have c101b1 : ((t314.size : Int) != (t311.size : Int)) = true := bne_iff_ne.mpr c101
                              have c101b2 : (t314.size == t311.size) = false := by first | simpa using c101 | (simp at c101 ⊢; omega)
                              obtain rfl := Option.some.inj H
                              have hnb113 := NB307_313.out
                              have hnc113 := NB313_307.out
                              have hcz114_0 : wr.cell? ⟨gb307, 0, none⟩ = some (.bool a0_0) := (blk_cell BK307.out 0).trans rfl
                              have hcz114_1 : wr.cell? ⟨gb307, 1, none⟩ = some (.int .i64 a0_1) := (blk_cell BK307.out 1).trans rfl
                              have hcz114_2 : wr.cell? ⟨gb307, 2, none⟩ = some (.string a0_2) := (blk_cell BK307.out 2).trans rfl
                              have hcz114_3 : wr.cell? ⟨gb307, 3, none⟩ = some (.slice A0_3 l0_3.length c0_3) := (blk_cell BK307.out 3).trans rfl
                              have hfz114_0 := blk_frozen BK307.out 0
                              have hfz114_1 := blk_frozen BK307.out 1
                              have hfz114_2 := blk_frozen BK307.out 2
                              have hfz114_3 := blk_frozen BK307.out 3
                              go_wp2
                              repeat (go_quiet (fail); try go_wp2)
                              go_ret
                              exact ⟨by first | rfl | (simp [errW_none, errW_some] <;> rfl) | (simp [*, errW_none, errW_some] <;> rfl), by repeat (first | (with_reducible first | exact HB.out | apply below_alloc | apply pw_below_drewN | apply below_drew1 | refine below_set ?_ GE307.out | refine below_set ?_ GE313.out) | exact HB.out)⟩
                          · rw [if_neg c100] at H
                            have c100b0 : ((t311.size : Int) == (wrap64 ((1 + 3) + x12_2))) = false := beq_eq_false_iff_ne.mpr c100
                            have c100b0z : ((t311.size : Int) == (wrap64 (4 + x12_2))) = false := c100b0
                            have c100b1 : ((t311.size : Int) != (wrap64 ((1 + 3) + x12_2))) = true := bne_iff_ne.mpr c100
                            have c100b1z : ((t311.size : Int) != (wrap64 (4 + x12_2))) = true := c100b1
                            obtain rfl := Option.some.inj H
                            have hnb115 := NB307_313.out
                            have hnc115 := NB313_307.out
                            have hcz116_0 : wr.cell? ⟨gb307, 0, none⟩ = some (.bool a0_0) := (blk_cell BK307.out 0).trans rfl
                            have hcz116_1 : wr.cell? ⟨gb307, 1, none⟩ = some (.int .i64 a0_1) := (blk_cell BK307.out 1).trans rfl
                            have hcz116_2 : wr.cell? ⟨gb307, 2, none⟩ = some (.string a0_2) := (blk_cell BK307.out 2).trans rfl
                            have hcz116_3 : wr.cell? ⟨gb307, 3, none⟩ = some (.slice A0_3 l0_3.length c0_3) := (blk_cell BK307.out 3).trans rfl
                            have hfz116_0 := blk_frozen BK307.out 0
                            have hfz116_1 := blk_frozen BK307.out 1
                            have hfz116_2 := blk_frozen BK307.out 2
                            have hfz116_3 := blk_frozen BK307.out 3
                            go_wp2
                            repeat (go_quiet (fail); try go_wp2)
                            go_ret
                            exact ⟨by first | rfl | (simp [errW_none, errW_some] <;> rfl) | (simp [*, errW_none, errW_some] <;> rfl), by repeat (first | (with_reducible first | exact HB.out | apply below_alloc | apply pw_below_drewN | apply below_drew1 | refine below_set ?_ GE307.out | refine below_set ?_ GE313.out) | exact HB.out)⟩
                        · rw [if_neg c99] at H
                          have c99b0 : (t315 == 0) = false := beq_eq_false_iff_ne.mpr c99
                          have c99b1 : (t315 != 0) = true := bne_iff_ne.mpr c99
                          obtain rfl := Option.some.inj H
                          have hnb117 := NB307_313.out
                          have hnc117 := NB313_307.out
                          have hcz118_0 : wr.cell? ⟨gb307, 0, none⟩ = some (.bool a0_0) := (blk_cell BK307.out 0).trans rfl
                          have hcz118_1 : wr.cell? ⟨gb307, 1, none⟩ = some (.int .i64 a0_1) := (blk_cell BK307.out 1).trans rfl
                          have hcz118_2 : wr.cell? ⟨gb307, 2, none⟩ = some (.string a0_2) := (blk_cell BK307.out 2).trans rfl
                          have hcz118_3 : wr.cell? ⟨gb307, 3, none⟩ = some (.slice A0_3 l0_3.length c0_3) := (blk_cell BK307.out 3).trans rfl
                          have hfz118_0 := blk_frozen BK307.out 0
                          have hfz118_1 := blk_frozen BK307.out 1
                          have hfz118_2 := blk_frozen BK307.out 2
                          have hfz118_3 := blk_frozen BK307.out 3
                          go_wp2
                          repeat (go_quiet (fail); try go_wp2)
                          go_ret
                          exact ⟨by first | rfl | (simp [errW_none, errW_some] <;> rfl) | (simp [*, errW_none, errW_some] <;> rfl), by repeat (first | (with_reducible first | exact HB.out | apply below_alloc | apply pw_below_drewN | apply below_drew1 | refine below_set ?_ GE307.out | refine below_set ?_ GE313.out) | exact HB.out)⟩
                      · rw [if_neg c98] at H
                        have c98b0 : (t312 == 0) = false := beq_eq_false_iff_ne.mpr c98
                        have c98b1 : (t312 != 0) = true := bne_iff_ne.mpr c98
                        obtain rfl := Option.some.inj H
                        have hnb119 := NB307_313.out
                        have hnc119 := NB313_307.out
                        have hcz120_0 : wr.cell? ⟨gb307, 0, none⟩ = some (.bool a0_0) := (blk_cell BK307.out 0).trans rfl
                        have hcz120_1 : wr.cell? ⟨gb307, 1, none⟩ = some (.int .i64 a0_1) := (blk_cell BK307.out 1).trans rfl
                        have hcz120_2 : wr.cell? ⟨gb307, 2, none⟩ = some (.string a0_2) := (blk_cell BK307.out 2).trans rfl
                        have hcz120_3 : wr.cell? ⟨gb307, 3, none⟩ = some (.slice A0_3 l0_3.length c0_3) := (blk_cell BK307.out 3).trans rfl
                        have hfz120_0 := blk_frozen BK307.out 0
                        have hfz120_1 := blk_frozen BK307.out 1
                        have hfz120_2 := blk_frozen BK307.out 2
                        have hfz120_3 := blk_frozen BK307.out 3
                        go_wp2
                        repeat (go_quiet (fail); try go_wp2)
                        go_ret
                        exact ⟨by first | rfl | (simp [errW_none, errW_some] <;> rfl) | (simp [*, errW_none, errW_some] <;> rfl), by repeat (first | (with_reducible first | exact HB.out | apply below_alloc | apply pw_below_drewN | apply below_drew1 | refine below_set ?_ GE307.out | refine below_set ?_ GE313.out) | exact HB.out)⟩
                    · exact absurd rfl c97
                  · rw [if_neg c96] at H
                    have c96b0 : decide (16383 < x12_2) = false := decide_eq_false c96
                    clear c96
                    by_cases c123 : true = true
                    · clear c123
                      have H1 : (if t312 = 0 then (if t315 = 0 then (if (t311.size : Int) = (wrap64 ((1 + 1) + x12_2)) then (if (t314.size : Int) = (t311.size : Int) then (if 1 ≤ (t311.size : Int) then (if 1 ≤ (t314.size : Int) then (if (t311.extract 1 t311.size).toList = (t314.extract 1 t314.size).toList then (if 0 < (t314.size : Int) then (if 0 < (t311.size : Int) then (some ((wrap64 ((wrap64 (bt t314 0)) - (wrap64 (bt t311 0)))) == (wrap64 (a1 - a0_1)))) else (none)) else (none)) else (some false)) else (none)) else (none)) else (some false)) else (some false)) else (some false)) else (some false)) = some r := by first | (rw [if_pos rfl] at H; exact H) | (rw [if_pos trivial] at H; exact H) | simpa using H
                      clear H
                      have H := H1
                      clear H1
                      by_cases c124 : t312 = 0
                      · rw [if_pos c124] at H
                        have c124b0 : (t312 == 0) = true := beq_iff_eq.mpr c124
                        have c124b1 : (t312 != 0) = false := bne_eq_false_iff_eq.mpr c124
                        clear c124
                        by_cases c125 : t315 = 0
                        · rw [if_pos c125] at H
                          have c125b0 : (t315 == 0) = true := beq_iff_eq.mpr c125
                          have c125b1 : (t315 != 0) = false := bne_eq_false_iff_eq.mpr c125
                          clear c125
                          by_cases c126 : (t311.size : Int) = (wrap64 ((1 + 1) + x12_2))
                          · rw [if_pos c126] at H
                            have c126b0 : ((t311.size : Int) == (wrap64 ((1 + 1) + x12_2))) = true := beq_iff_eq.mpr c126
                            have c126b0z : ((t311.size : Int) == (wrap64 (2 + x12_2))) = true := c126b0
                            have c126b1 : ((t311.size : Int) != (wrap64 ((1 + 1) + x12_2))) = false := bne_eq_false_iff_eq.mpr c126
                            have c126b1z : ((t311.size : Int) != (wrap64 (2 + x12_2))) = false := c126b1
                            clear c126
                            by_cases c127 : (t314.size : Int) = (t311.size : Int)
                            · rw [if_pos c127] at H
                              have c127b0 : ((t314.size : Int) == (t311.size : Int)) = true := beq_iff_eq.mpr c127
                              have c127b1 : ((t314.size : Int) != (t311.size : Int)) = false := bne_eq_false_iff_eq.mpr c127
                              have c127b2 : (t314.size == t311.size) = true := by first | simpa using c127 | (simp at c127 ⊢; omega)
                              clear c127
                              by_cases c128 : 1 ≤ (t311.size : Int)
                              · rw [if_pos c128] at H
                                have c128b0 := eq_true c128
                                have c128b1 : decide (1 ≤ (t311.size : Int)) = true := decide_eq_true c128
                                clear c128
                                by_cases c129 : 1 ≤ (t314.size : Int)
                                · rw [if_pos c129] at H
                                  have c129b0 := eq_true c129
                                  have c129b1 : decide (1 ≤ (t314.size : Int)) = true := decide_eq_true c129
                                  clear c129
                                  by_cases c130 : (t311.extract 1 t311.size).toList = (t314.extract 1 t314.size).toList
                                  · rw [if_pos c130] at H
                                    have c130b0 : ((t311.extract 1 t311.size).toList == (t314.extract 1 t314.size).toList) = true := beq_iff_eq.mpr c130
                                    have c130b1 : ((t311.extract 1 t311.size).toList != (t314.extract 1 t314.size).toList) = false := bne_eq_false_iff_eq.mpr c130
                                    clear c130
                                    by_cases c131 : 0 < (t314.size : Int)
                                    · rw [if_pos c131] at H
                                      have c131b0 : decide (0 < (t314.size : Int)) = true := decide_eq_true c131
                                      have c131b1 : decide (0 < t314.size) = true := decide_eq_true (by omega)
                                      clear c131
                                      by_cases c133 : 0 < (t311.size : Int)
                                      · rw [if_pos c133] at H
                                        have c133b0 : decide (0 < (t311.size : Int)) = true := decide_eq_true c133
                                        have c133b1 : decide (0 < t311.size) = true := decide_eq_true (by omega)
                                        clear c133
                                        obtain rfl := Option.some.inj H
                                        have hnb135 := NB307_313.out
                                        have hnc135 := NB313_307.out
                                        have hcz136_0 : wr.cell? ⟨gb307, 0, none⟩ = some (.bool a0_0) := (blk_cell BK307.out 0).trans rfl
                                        have hcz136_1 : wr.cell? ⟨gb307, 1, none⟩ = some (.int .i64 a0_1) := (blk_cell BK307.out 1).trans rfl
                                        have hcz136_2 : wr.cell? ⟨gb307, 2, none⟩ = some (.string a0_2) := (blk_cell BK307.out 2).trans rfl
                                        have hcz136_3 : wr.cell? ⟨gb307, 3, none⟩ = some (.slice A0_3 l0_3.length c0_3) := (blk_cell BK307.out 3).trans rfl
                                        have hfz136_0 := blk_frozen BK307.out 0
                                        have hfz136_1 := blk_frozen BK307.out 1
                                        have hfz136_2 := blk_frozen BK307.out 2
                                        have hfz136_3 := blk_frozen BK307.out 3
                                        have p132 : 0 ≤ (0 : Int) := (by omega)
                                        have q132 : 0 < t314.size := (by have : (0 : Int) < (t314.size : Int) := of_decide_eq_true (by first | (with_reducible assumption) | assumption); omega)
                                        have hx132 : ∀ h : 0 < t314.size, ((t314[0]'h).toNat : Int) = bt t314 0 := bt_at t314 0
                                        clear p132
                                        have qi132 : (0 < (t314.size : Int)) = True := eq_true (of_decide_eq_true (by first | (with_reducible assumption) | assumption))
                                        replace q132 := eq_true q132
                                        have p134 : 0 ≤ (0 : Int) := (by omega)
                                        have q134 : 0 < t311.size := (by have : (0 : Int) < (t311.size : Int) := of_decide_eq_true (by first | (with_reducible assumption) | assumption); omega)
                                        have hx134 : ∀ h : 0 < t311.size, ((t311[0]'h).toNat : Int) = bt t311 0 := bt_at t311 0
                                        clear p134
                                        have qi134 : (0 < (t311.size : Int)) = True := eq_true (of_decide_eq_true (by first | (with_reducible assumption) | assumption))
                                        replace q134 := eq_true q134
                                        go_wp2
                                        repeat (go_quiet (fail); try go_wp2)
                                        go_ret
                                        exact ⟨by first | rfl | (simp [errW_none, errW_some] <;> rfl) | (simp [*, errW_none, errW_some] <;> rfl), by repeat (first | (with_reducible first | exact HB.out | apply below_alloc | apply pw_below_drewN | apply below_drew1 | refine below_set ?_ GE307.out | refine below_set ?_ GE313.out) | exact HB.out)⟩
                                      · rw [if_neg c133] at H
                                        exact absurd H (by simp)
                                    · rw [if_neg c131] at H
                                      exact absurd H (by simp)
                                  · rw [if_neg c130] at H
                                    have c130b0 : ((t311.extract 1 t311.size).toList == (t314.extract 1 t314.size).toList) = false := beq_eq_false_iff_ne.mpr c130
                                    have c130b1 : ((t311.extract 1 t311.size).toList != (t314.extract 1 t314.size).toList) = true := bne_iff_ne.mpr c130
                                    obtain rfl := Option.some.inj H
                                    have hnb137 := NB307_313.out
                                    have hnc137 := NB313_307.out
                                    have hcz138_0 : wr.cell? ⟨gb307, 0, none⟩ = some (.bool a0_0) := (blk_cell BK307.out 0).trans rfl
                                    have hcz138_1 : wr.cell? ⟨gb307, 1, none⟩ = some (.int .i64 a0_1) := (blk_cell BK307.out 1).trans rfl
                                    have hcz138_2 : wr.cell? ⟨gb307, 2, none⟩ = some (.string a0_2) := (blk_cell BK307.out 2).trans rfl
                                    have hcz138_3 : wr.cell? ⟨gb307, 3, none⟩ = some (.slice A0_3 l0_3.length c0_3) := (blk_cell BK307.out 3).trans rfl
                                    have hfz138_0 := blk_frozen BK307.out 0
                                    have hfz138_1 := blk_frozen BK307.out 1
                                    have hfz138_2 := blk_frozen BK307.out 2
                                    have hfz138_3 := blk_frozen BK307.out 3
                                    go_wp2
                                    repeat (go_quiet (fail); try go_wp2)
                                    go_ret
                                    exact ⟨by first | rfl | (simp [errW_none, errW_some] <;> rfl) | (simp [*, errW_none, errW_some] <;> rfl), by repeat (first | (with_reducible first | exact HB.out | apply below_alloc | apply pw_below_drewN | apply below_drew1 | refine below_set ?_ GE307.out | refine below_set ?_ GE313.out) | exact HB.out)⟩
                                · rw [if_neg c129] at H
                                  exact absurd H (by simp)
                              · rw [if_neg c128] at H
                                exact absurd H (by simp)
                            · rw [if_neg c127] at H
                              have c127b0 : ((t314.size : Int) == (t311.size : Int)) = false := beq_eq_false_iff_ne.mpr c127
                              have c127b1 : ((t314.size : Int) != (t311.size : Int)) = true := bne_iff_ne.mpr c127
                              have c127b2 : (t314.size == t311.size) = false := by first | simpa using c127 | (simp at c127 ⊢; omega)
                              obtain rfl := Option.some.inj H
                              have hnb139 := NB307_313.out
                              have hnc139 := NB313_307.out
                              have hcz140_0 : wr.cell? ⟨gb307, 0, none⟩ = some (.bool a0_0) := (blk_cell BK307.out 0).trans rfl
                              have hcz140_1 : wr.cell? ⟨gb307, 1, none⟩ = some (.int .i64 a0_1) := (blk_cell BK307.out 1).trans rfl
                              have hcz140_2 : wr.cell? ⟨gb307, 2, none⟩ = some (.string a0_2) := (blk_cell BK307.out 2).trans rfl
                              have hcz140_3 : wr.cell? ⟨gb307, 3, none⟩ = some (.slice A0_3 l0_3.length c0_3) := (blk_cell BK307.out 3).trans rfl
                              have hfz140_0 := blk_frozen BK307.out 0
                              have hfz140_1 := blk_frozen BK307.out 1
                              have hfz140_2 := blk_frozen BK307.out 2
                              have hfz140_3 := blk_frozen BK307.out 3
                              go_wp2
                              repeat (go_quiet (fail); try go_wp2)
                              go_ret
                              exact ⟨by first | rfl | (simp [errW_none, errW_some] <;> rfl) | (simp [*, errW_none, errW_some] <;> rfl), by repeat (first | (with_reducible first | exact HB.out | apply below_alloc | apply pw_below_drewN | apply below_drew1 | refine below_set ?_ GE307.out | refine below_set ?_ GE313.out) | exact HB.out)⟩
                          · rw [if_neg c126] at H
                            have c126b0 : ((t311.size : Int) == (wrap64 ((1 + 1) + x12_2))) = false := beq_eq_false_iff_ne.mpr c126
                            have c126b0z : ((t311.size : Int) == (wrap64 (2 + x12_2))) = false := c126b0
                            have c126b1 : ((t311.size : Int) != (wrap64 ((1 + 1) + x12_2))) = true := bne_iff_ne.mpr c126
                            have c126b1z : ((t311.size : Int) != (wrap64 (2 + x12_2))) = true := c126b1
                            obtain rfl := Option.some.inj H
                            have hnb141 := NB307_313.out
                            have hnc141 := NB313_307.out
                            have hcz142_0 : wr.cell? ⟨gb307, 0, none⟩ = some (.bool a0_0) := (blk_cell BK307.out 0).trans rfl
                            have hcz142_1 : wr.cell? ⟨gb307, 1, none⟩ = some (.int .i64 a0_1) := (blk_cell BK307.out 1).trans rfl
                            have hcz142_2 : wr.cell? ⟨gb307, 2, none⟩ = some (.string a0_2) := (blk_cell BK307.out 2).trans rfl
                            have hcz142_3 : wr.cell? ⟨gb307, 3, none⟩ = some (.slice A0_3 l0_3.length c0_3) := (blk_cell BK307.out 3).trans rfl
                            have hfz142_0 := blk_frozen BK307.out 0
                            have hfz142_1 := blk_frozen BK307.out 1
                            have hfz142_2 := blk_frozen BK307.out 2
                            have hfz142_3 := blk_frozen BK307.out 3
                            go_wp2
                            repeat (go_quiet (fail); try go_wp2)
                            go_ret
                            exact ⟨by first | rfl | (simp [errW_none, errW_some] <;> rfl) | (simp [*, errW_none, errW_some] <;> rfl), by repeat (first | (with_reducible first | exact HB.out | apply below_alloc | apply pw_below_drewN | apply below_drew1 | refine below_set ?_ GE307.out | refine below_set ?_ GE313.out) | exact HB.out)⟩
                        · rw [if_neg c125] at H
                          have c125b0 : (t315 == 0) = false := beq_eq_false_iff_ne.mpr c125
                          have c125b1 : (t315 != 0) = true := bne_iff_ne.mpr c125
                          obtain rfl := Option.some.inj H
                          have hnb143 := NB307_313.out
                          have hnc143 := NB313_307.out
                          have hcz144_0 : wr.cell? ⟨gb307, 0, none⟩ = some (.bool a0_0) := (blk_cell BK307.out 0).trans rfl
                          have hcz144_1 : wr.cell? ⟨gb307, 1, none⟩ = some (.int .i64 a0_1) := (blk_cell BK307.out 1).trans rfl
                          have hcz144_2 : wr.cell? ⟨gb307, 2, none⟩ = some (.string a0_2) := (blk_cell BK307.out 2).trans rfl
                          have hcz144_3 : wr.cell? ⟨gb307, 3, none⟩ = some (.slice A0_3 l0_3.length c0_3) := (blk_cell BK307.out 3).trans rfl
                          have hfz144_0 := blk_frozen BK307.out 0
                          have hfz144_1 := blk_frozen BK307.out 1
                          have hfz144_2 := blk_frozen BK307.out 2
                          have hfz144_3 := blk_frozen BK307.out 3
                          go_wp2
                          repeat (go_quiet (fail); try go_wp2)
                          go_ret
                          exact ⟨by first | rfl | (simp [errW_none, errW_some] <;> rfl) | (simp [*, errW_none, errW_some] <;> rfl), by repeat (first | (with_reducible first | exact HB.out | apply below_alloc | apply pw_below_drewN | apply below_drew1 | refine below_set ?_ GE307.out | refine below_set ?_ GE313.out) | exact HB.out)⟩
                      · rw [if_neg c124] at H
                        have c124b0 : (t312 == 0) = false := beq_eq_false_iff_ne.mpr c124
                        have c124b1 : (t312 != 0) = true := bne_iff_ne.mpr c124
                        obtain rfl := Option.some.inj H
                        have hnb145 := NB307_313.out
                        have hnc145 := NB313_307.out
                        have hcz146_0 : wr.cell? ⟨gb307, 0, none⟩ = some (.bool a0_0) := (blk_cell BK307.out 0).trans rfl
                        have hcz146_1 : wr.cell? ⟨gb307, 1, none⟩ = some (.int .i64 a0_1) := (blk_cell BK307.out 1).trans rfl
                        have hcz146_2 : wr.cell? ⟨gb307, 2, none⟩ = some (.string a0_2) := (blk_cell BK307.out 2).trans rfl
                        have hcz146_3 : wr.cell? ⟨gb307, 3, none⟩ = some (.slice A0_3 l0_3.length c0_3) := (blk_cell BK307.out 3).trans rfl
                        have hfz146_0 := blk_frozen BK307.out 0
                        have hfz146_1 := blk_frozen BK307.out 1
                        have hfz146_2 := blk_frozen BK307.out 2
                        have hfz146_3 := blk_frozen BK307.out 3
                        go_wp2
                        repeat (go_quiet (fail); try go_wp2)
                        go_ret
                        exact ⟨by first | rfl | (simp [errW_none, errW_some] <;> rfl) | (simp [*, errW_none, errW_some] <;> rfl), by repeat (first | (with_reducible first | exact HB.out | apply below_alloc | apply pw_below_drewN | apply below_drew1 | refine below_set ?_ GE307.out | refine below_set ?_ GE313.out) | exact HB.out)⟩
                    · exact absurd rfl c123
  · replace c4 := Bool.eq_false_iff.mpr c4
    subst c4
    have H1 : (some false) = some r := by rw [if_neg (show ¬ (false = true) by decide)] at H; exact H
    clear H
    have H := H1
    clear H1
    obtain rfl := Option.some.inj H
    go_enter Try.func17, Try.ntmps17
    go_wp2_with (first | ((with_reducible refine gate_dst (N := 2) rfl ?_); (try (refine gate_guard (by rfl) ?_; dsimp only)); refine box_event ?hg (N := 2) ?hd (cs := #[.bool a0_0, .int .i64 a0_1, .string a0_2, .slice A0_3 l0_3.length c0_3]) (t := 44) ?hr ?_; (case hd => rfl); (case hg => rfl); (case hr => first | (go_simp; done) | (go_simp; rfl)); intro gb307 hg w149 hbox hb; have n0_ := Aside0.mk (below_step (by repeat (first | (with_reducible first | exact HB.out | apply below_alloc | apply pw_below_drewN | apply below_drew1) | exact HB.out)) hb); have n1_ := Aside0.mk (hbox); have n2_ := Aside0.mk ((by rw [hg]; exact (below_size (by repeat (first | (with_reducible first | exact HB.out | apply below_alloc | apply pw_below_drewN | apply below_drew1) | exact HB.out))) : w.heap.size ≤ gb307)); have n3_ := Aside0.mk ((by rw [hg]; exact (below_size (by repeat (first | (with_reducible first | exact HB.out | apply below_alloc | apply pw_below_drewN | apply below_drew1) | exact HB.out))) : w.heap.size ≤ gb307)); clear HB; have HB := n0_; have BK307 := n1_; have GW307 := n2_; have GE307 := n3_; clear n0_ n1_ n2_ n3_; clear hb hbox hg) | (go_at_call 34; (with_reducible refine (legatelaw01_works.calls k  false _ A3.out).mono ?_); rintro e w150 ⟨rfl, hb⟩; have n0_ := Aside0.mk (blk_below (g := gb307) (o := .cells #[.bool a0_0, .int .i64 a0_1, .string a0_2, .slice A0_3 l0_3.length c0_3] 44 (0, 0)) (by (with_reducible repeat (first | refine blk_drewN ?_ _ | refine blk_drew ?_ | refine blk_alloc ?_ _)); exact BK307.out) hb); have n1_ := Aside0.mk (below_step (by repeat (first | (with_reducible first | exact HB.out | apply below_alloc | apply pw_below_drewN | apply below_drew1 | refine below_set ?_ GE307.out) | exact HB.out)) hb); clear BK307; clear HB; have BK307 := n0_; have HB := n1_; clear n0_ n1_; (try clear hb); (try clear hb2); (try clear hk); (try clear hi)))
    repeat (go_quiet (first | ((with_reducible refine gate_dst (N := 2) rfl ?_); (try (refine gate_guard (by rfl) ?_; dsimp only)); refine box_event ?hg (N := 2) ?hd (cs := #[.bool a0_0, .int .i64 a0_1, .string a0_2, .slice A0_3 l0_3.length c0_3]) (t := 44) ?hr ?_; (case hd => rfl); (case hg => rfl); (case hr => first | (go_simp; done) | (go_simp; rfl)); intro gb307 hg w149 hbox hb; have n0_ := Aside0.mk (below_step (by repeat (first | (with_reducible first | exact HB.out | apply below_alloc | apply pw_below_drewN | apply below_drew1) | exact HB.out)) hb); have n1_ := Aside0.mk (hbox); have n2_ := Aside0.mk ((by rw [hg]; exact (below_size (by repeat (first | (with_reducible first | exact HB.out | apply below_alloc | apply pw_below_drewN | apply below_drew1) | exact HB.out))) : w.heap.size ≤ gb307)); have n3_ := Aside0.mk ((by rw [hg]; exact (below_size (by repeat (first | (with_reducible first | exact HB.out | apply below_alloc | apply pw_below_drewN | apply below_drew1) | exact HB.out))) : w.heap.size ≤ gb307)); clear HB; have HB := n0_; have BK307 := n1_; have GW307 := n2_; have GE307 := n3_; clear n0_ n1_ n2_ n3_; clear hb hbox hg) | (go_at_call 34; (with_reducible refine (legatelaw01_works.calls k  false _ A3.out).mono ?_); rintro e w150 ⟨rfl, hb⟩; have n0_ := Aside0.mk (blk_below (g := gb307) (o := .cells #[.bool a0_0, .int .i64 a0_1, .string a0_2, .slice A0_3 l0_3.length c0_3] 44 (0, 0)) (by (with_reducible repeat (first | refine blk_drewN ?_ _ | refine blk_drew ?_ | refine blk_alloc ?_ _)); exact BK307.out) hb); have n1_ := Aside0.mk (below_step (by repeat (first | (with_reducible first | exact HB.out | apply below_alloc | apply pw_below_drewN | apply below_drew1 | refine below_set ?_ GE307.out) | exact HB.out)) hb); clear BK307; clear HB; have BK307 := n0_; have HB := n1_; clear n0_ n1_; (try clear hb); (try clear hb2); (try clear hk); (try clear hi))); try go_wp2_with (first | ((with_reducible refine gate_dst (N := 2) rfl ?_); (try (refine gate_guard (by rfl) ?_; dsimp only)); refine box_event ?hg (N := 2) ?hd (cs := #[.bool a0_0, .int .i64 a0_1, .string a0_2, .slice A0_3 l0_3.length c0_3]) (t := 44) ?hr ?_; (case hd => rfl); (case hg => rfl); (case hr => first | (go_simp; done) | (go_simp; rfl)); intro gb307 hg w149 hbox hb; have n0_ := Aside0.mk (below_step (by repeat (first | (with_reducible first | exact HB.out | apply below_alloc | apply pw_below_drewN | apply below_drew1) | exact HB.out)) hb); have n1_ := Aside0.mk (hbox); have n2_ := Aside0.mk ((by rw [hg]; exact (below_size (by repeat (first | (with_reducible first | exact HB.out | apply below_alloc | apply pw_below_drewN | apply below_drew1) | exact HB.out))) : w.heap.size ≤ gb307)); have n3_ := Aside0.mk ((by rw [hg]; exact (below_size (by repeat (first | (with_reducible first | exact HB.out | apply below_alloc | apply pw_below_drewN | apply below_drew1) | exact HB.out))) : w.heap.size ≤ gb307)); clear HB; have HB := n0_; have BK307 := n1_; have GW307 := n2_; have GE307 := n3_; clear n0_ n1_ n2_ n3_; clear hb hbox hg) | (go_at_call 34; (with_reducible refine (legatelaw01_works.calls k  false _ A3.out).mono ?_); rintro e w150 ⟨rfl, hb⟩; have n0_ := Aside0.mk (blk_below (g := gb307) (o := .cells #[.bool a0_0, .int .i64 a0_1, .string a0_2, .slice A0_3 l0_3.length c0_3] 44 (0, 0)) (by (with_reducible repeat (first | refine blk_drewN ?_ _ | refine blk_drew ?_ | refine blk_alloc ?_ _)); exact BK307.out) hb); have n1_ := Aside0.mk (below_step (by repeat (first | (with_reducible first | exact HB.out | apply below_alloc | apply pw_below_drewN | apply below_drew1 | refine below_set ?_ GE307.out) | exact HB.out)) hb); clear BK307; clear HB; have BK307 := n0_; have HB := n1_; clear n0_ n1_; (try clear hb); (try clear hb2); (try clear hk); (try clear hi))))
    go_ret
    exact ⟨by first | rfl | (simp [errW_none, errW_some] <;> rfl) | (simp [*, errW_none, errW_some] <;> rfl), by repeat (first | (with_reducible first | exact HB.out | apply below_alloc | apply pw_below_drewN | apply below_drew1 | refine below_set ?_ GE307.out) | exact HB.out)⟩

end Go.Proofs.Ytkgijkfcmbpgpaa.PWir
end
