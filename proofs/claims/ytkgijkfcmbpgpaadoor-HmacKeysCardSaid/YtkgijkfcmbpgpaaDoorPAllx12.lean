-- written by wip/printx.py, a program of this session, over the kit's print
import Derived.Test.YtkgijkfcmbpgpaaDoorGWorld
import Derived.Test.YtkgijkfcmbpgpaaDoorGSha
import Derived.Test.YtkgijkfcmbpgpaaDoorGHmac
import Derived.Test.YtkgijkfcmbpgpaaDoorGDerive
import Derived.Test.YtkgijkfcmbpgpaaDoorPAllx0
import Derived.Test.YtkgijkfcmbpgpaaDoorPAllx9
namespace Go.Proofs.YtkgijkfcmbpgpaaDoor.PAll
open Go.RowKit Go.Proofs.YtkgijkfcmbpgpaaDoorW.PrintWords Go.Proofs.YtkgijkfcmbpgpaaDoorW.PrintLast Go.Proofs.YtkgijkfcmbpgpaaDoorW.PrintMore
open Go.Proofs.YtkgijkfcmbpgpaaDoor.Giv
attribute [local go_sem] max2_int min2_int max_two min_two max_three min_three max_four min_four   -- for this text's walks alone
set_option linter.unusedVariables false
set_option linter.unusedSimpArgs false

/-! ### legatelaw03_HmacEqual: function 11 -/
def legatelaw03_HmacEqual.f (k : Nat) (a0 : ByteArray) (a1 : ByteArray) : Option (Bool) := (legatelaw03_works.f k).bind fun t299 => (if t299 = true then ((hmac_Equal.f k a0 a1).bind fun t300 => (if (t300 == (a0.toList == a1.toList)) = true then ((hmac_Equal.f k a1 a0).bind fun t301 => (if (t301 == (a0.toList == a1.toList)) = true then ((hmac_Equal.f k a0 a0).bind fun t302 => (some t302)) else (some false))) else (some false))) else (some false))
theorem legatelaw03_HmacEqual.mono : ∀ a0 a1 k, LeO (legatelaw03_HmacEqual.f k a0 a1) (legatelaw03_HmacEqual.f (k + 1) a0 a1) := by
  intro a0 a1 k
  unfold legatelaw03_HmacEqual.f
  repeat' first
      | (with_reducible exact hmac_Equal.mono _ _ _)
      | (with_reducible exact legatelaw03_works.mono _)
      | (with_reducible exact LeO.refl _)
      | (with_reducible exact LeO.none _)
      | (with_reducible refine LeO.ite ?_ ?_)
      | (with_reducible refine LeO.bind ?_ (fun _ => ?_))
      | exact hmac_Equal.mono _ _ _
      | exact legatelaw03_works.mono _
      | exact LeO.none _
      | refine LeO.ite ?_ ?_
      | refine LeO.bind ?_ (fun _ => ?_)
set_option maxHeartbeats 8000000 in
set_option maxRecDepth 100000 in
theorem legatelaw03_HmacEqual.calls (k : Nat) (a0 : ByteArray) (a1 : ByteArray) (r : Bool) (w : World) {gw : GW w} (h : legatelaw03_HmacEqual.f k a0 a1 = some r) :
    Calls Tryd.prog 11 #[.string a0, .string a1] w fun e w' => e = .returned (.bool r) ∧ Below w.heap.size w w' := by
  have HG := Aside0.mk gw
  clear gw
  have HB := Aside0.mk (Below.refl w.heap.size w)
  have H : ((legatelaw03_works.f k).bind fun t299 => (if t299 = true then ((hmac_Equal.f k a0 a1).bind fun t300 => (if (t300 == (a0.toList == a1.toList)) = true then ((hmac_Equal.f k a1 a0).bind fun t301 => (if (t301 == (a0.toList == a1.toList)) = true then ((hmac_Equal.f k a0 a0).bind fun t302 => (some t302)) else (some false))) else (some false))) else (some false))) = some r := h
  clear h
  replace H := Option.bind_eq_some_iff.mp H
  obtain ⟨t299, A30, H⟩ := H
  replace H : (if t299 = true then ((hmac_Equal.f k a0 a1).bind fun t300 => (if (t300 == (a0.toList == a1.toList)) = true then ((hmac_Equal.f k a1 a0).bind fun t301 => (if (t301 == (a0.toList == a1.toList)) = true then ((hmac_Equal.f k a0 a0).bind fun t302 => (some t302)) else (some false))) else (some false))) else (some false)) = some r := H
  have A3 := Aside0.mk A30
  clear A30
  by_cases c4 : t299 = true
  · subst c4
    have H1 : ((hmac_Equal.f k a0 a1).bind fun t300 => (if (t300 == (a0.toList == a1.toList)) = true then ((hmac_Equal.f k a1 a0).bind fun t301 => (if (t301 == (a0.toList == a1.toList)) = true then ((hmac_Equal.f k a0 a0).bind fun t302 => (some t302)) else (some false))) else (some false))) = some r := by rw [if_pos rfl] at H; exact H
    clear H
    have H := H1
    clear H1
    replace H := Option.bind_eq_some_iff.mp H
    obtain ⟨t300, A50, H⟩ := H
    replace H : (if (t300 == (a0.toList == a1.toList)) = true then ((hmac_Equal.f k a1 a0).bind fun t301 => (if (t301 == (a0.toList == a1.toList)) = true then ((hmac_Equal.f k a0 a0).bind fun t302 => (some t302)) else (some false))) else (some false)) = some r := H
    have A5 := Aside0.mk A50
    clear A50
    by_cases c6 : (t300 == (a0.toList == a1.toList)) = true
    · rw [if_pos c6] at H
      have c6b0 : (t300 == (a0.toList == a1.toList)) = true := c6
      (try (have c6b1 : decide (t300 = (a0.toList == a1.toList)) = true := by simpa using c6))
      (try (have c6b2 : (t300 == (a0.toList == a1.toList)) = true := by simpa using c6))
      clear c6
      replace H := Option.bind_eq_some_iff.mp H
      obtain ⟨t301, A70, H⟩ := H
      replace H : (if (t301 == (a0.toList == a1.toList)) = true then ((hmac_Equal.f k a0 a0).bind fun t302 => (some t302)) else (some false)) = some r := H
      have A7 := Aside0.mk A70
      clear A70
      by_cases c8 : (t301 == (a0.toList == a1.toList)) = true
      · rw [if_pos c8] at H
        have c8b0 : (t301 == (a0.toList == a1.toList)) = true := c8
        (try (have c8b1 : decide (t301 = (a0.toList == a1.toList)) = true := by simpa using c8))
        (try (have c8b2 : (t301 == (a0.toList == a1.toList)) = true := by simpa using c8))
        clear c8
        replace H := Option.bind_eq_some_iff.mp H
        obtain ⟨t302, A90, H⟩ := H
        replace H : (some t302) = some r := H
        have A9 := Aside0.mk A90
        clear A90
        obtain rfl := Option.some.inj H
        go_enter Tryd.func11, Tryd.ntmps11
        go_wp2_with (first | ((with_reducible refine gate_callee (f := 34) rfl ?_); refine goesL_ (some 6) rfl rfl Tryd.func34 (by kernel_rfl) rfl #[] rfl (by (try simp only [List.map_toArray, List.map_cons, List.map_nil]); first | done | rfl | (simp only [List.length_drop, List.length_take]; rfl)) ?_; (with_reducible refine (legatelaw03_works.calls (gw := ?sideG) k  true _ A3.out).mono ?_); (case sideG => exact GW.below HG.out (by repeat (first | (with_reducible first | exact HB.out | apply below_alloc | apply pw_below_drewN | apply below_drew1) | exact HB.out))); rintro e w10 ⟨rfl, hb⟩; refine ⟨_, rfl, ?_⟩; have n0_ := Aside0.mk (below_step (by repeat (first | (with_reducible first | exact HB.out | apply below_alloc | apply pw_below_drewN | apply below_drew1) | exact HB.out)) hb); clear HB; have HB := n0_; clear n0_; (try clear hb); (try clear hb2); (try clear hk); (try clear hi)) | (go_at_call 39; (with_reducible refine (hmac_Equal.calls k a0 a1 t300 _ A5.out).mono ?_); rintro e w' ⟨rfl, ⟨nd, rfl⟩⟩) | (go_at_call 39; (with_reducible refine (hmac_Equal.calls k a1 a0 t301 _ A7.out).mono ?_); rintro e w' ⟨rfl, ⟨nd, rfl⟩⟩) | (go_at_call 39; (with_reducible refine (hmac_Equal.calls k a0 a0 t302 _ A9.out).mono ?_); rintro e w' ⟨rfl, ⟨nd, rfl⟩⟩))
        go_ret
        exact ⟨by first | rfl | (simp [errW_none, errW_some] <;> rfl) | (simp [*, errW_none, errW_some] <;> rfl), by repeat (first | (with_reducible first | exact HB.out | apply below_alloc | apply pw_below_drewN | apply below_drew1) | exact HB.out)⟩
      · rw [if_neg c8] at H
        have c8b0 : (t301 == (a0.toList == a1.toList)) = false := by simpa using c8
        (try (have c8b1 : decide (t301 = (a0.toList == a1.toList)) = false := by simpa using c8))
        (try (have c8b2 : (t301 == (a0.toList == a1.toList)) = false := by simpa using c8))
        (try (have c8b3 : ¬ (t301 = (a0.toList == a1.toList)) := by simpa using c8))
        clear c8
        obtain rfl := Option.some.inj H
        go_enter Tryd.func11, Tryd.ntmps11
        go_wp2_with (first | ((with_reducible refine gate_callee (f := 34) rfl ?_); refine goesL_ (some 6) rfl rfl Tryd.func34 (by kernel_rfl) rfl #[] rfl (by (try simp only [List.map_toArray, List.map_cons, List.map_nil]); first | done | rfl | (simp only [List.length_drop, List.length_take]; rfl)) ?_; (with_reducible refine (legatelaw03_works.calls (gw := ?sideG) k  true _ A3.out).mono ?_); (case sideG => exact GW.below HG.out (by repeat (first | (with_reducible first | exact HB.out | apply below_alloc | apply pw_below_drewN | apply below_drew1) | exact HB.out))); rintro e w11 ⟨rfl, hb⟩; refine ⟨_, rfl, ?_⟩; have n0_ := Aside0.mk (below_step (by repeat (first | (with_reducible first | exact HB.out | apply below_alloc | apply pw_below_drewN | apply below_drew1) | exact HB.out)) hb); clear HB; have HB := n0_; clear n0_; (try clear hb); (try clear hb2); (try clear hk); (try clear hi)) | (go_at_call 39; (with_reducible refine (hmac_Equal.calls k a0 a1 t300 _ A5.out).mono ?_); rintro e w' ⟨rfl, ⟨nd, rfl⟩⟩) | (go_at_call 39; (with_reducible refine (hmac_Equal.calls k a1 a0 t301 _ A7.out).mono ?_); rintro e w' ⟨rfl, ⟨nd, rfl⟩⟩))
        go_ret
        exact ⟨by first | rfl | (simp [errW_none, errW_some] <;> rfl) | (simp [*, errW_none, errW_some] <;> rfl), by repeat (first | (with_reducible first | exact HB.out | apply below_alloc | apply pw_below_drewN | apply below_drew1) | exact HB.out)⟩
    · rw [if_neg c6] at H
      have c6b0 : (t300 == (a0.toList == a1.toList)) = false := by simpa using c6
      (try (have c6b1 : decide (t300 = (a0.toList == a1.toList)) = false := by simpa using c6))
      (try (have c6b2 : (t300 == (a0.toList == a1.toList)) = false := by simpa using c6))
      (try (have c6b3 : ¬ (t300 = (a0.toList == a1.toList)) := by simpa using c6))
      clear c6
      obtain rfl := Option.some.inj H
      go_enter Tryd.func11, Tryd.ntmps11
      go_wp2_with (first | ((with_reducible refine gate_callee (f := 34) rfl ?_); refine goesL_ (some 6) rfl rfl Tryd.func34 (by kernel_rfl) rfl #[] rfl (by (try simp only [List.map_toArray, List.map_cons, List.map_nil]); first | done | rfl | (simp only [List.length_drop, List.length_take]; rfl)) ?_; (with_reducible refine (legatelaw03_works.calls (gw := ?sideG) k  true _ A3.out).mono ?_); (case sideG => exact GW.below HG.out (by repeat (first | (with_reducible first | exact HB.out | apply below_alloc | apply pw_below_drewN | apply below_drew1) | exact HB.out))); rintro e w12 ⟨rfl, hb⟩; refine ⟨_, rfl, ?_⟩; have n0_ := Aside0.mk (below_step (by repeat (first | (with_reducible first | exact HB.out | apply below_alloc | apply pw_below_drewN | apply below_drew1) | exact HB.out)) hb); clear HB; have HB := n0_; clear n0_; (try clear hb); (try clear hb2); (try clear hk); (try clear hi)) | (go_at_call 39; (with_reducible refine (hmac_Equal.calls k a0 a1 t300 _ A5.out).mono ?_); rintro e w' ⟨rfl, ⟨nd, rfl⟩⟩))
      go_ret
      exact ⟨by first | rfl | (simp [errW_none, errW_some] <;> rfl) | (simp [*, errW_none, errW_some] <;> rfl), by repeat (first | (with_reducible first | exact HB.out | apply below_alloc | apply pw_below_drewN | apply below_drew1) | exact HB.out)⟩
  · replace c4 := Bool.eq_false_iff.mpr c4
    subst c4
    have H1 : (some false) = some r := by rw [if_neg (show ¬ (false = true) by decide)] at H; exact H
    clear H
    have H := H1
    clear H1
    obtain rfl := Option.some.inj H
    go_enter Tryd.func11, Tryd.ntmps11
    go_wp2_with (first | ((with_reducible refine gate_callee (f := 34) rfl ?_); refine goesL_ (some 6) rfl rfl Tryd.func34 (by kernel_rfl) rfl #[] rfl (by (try simp only [List.map_toArray, List.map_cons, List.map_nil]); first | done | rfl | (simp only [List.length_drop, List.length_take]; rfl)) ?_; (with_reducible refine (legatelaw03_works.calls (gw := ?sideG) k  false _ A3.out).mono ?_); (case sideG => exact GW.below HG.out (by repeat (first | (with_reducible first | exact HB.out | apply below_alloc | apply pw_below_drewN | apply below_drew1) | exact HB.out))); rintro e w13 ⟨rfl, hb⟩; refine ⟨_, rfl, ?_⟩; have n0_ := Aside0.mk (below_step (by repeat (first | (with_reducible first | exact HB.out | apply below_alloc | apply pw_below_drewN | apply below_drew1) | exact HB.out)) hb); clear HB; have HB := n0_; clear n0_; (try clear hb); (try clear hb2); (try clear hk); (try clear hi)))
    go_ret
    exact ⟨by first | rfl | (simp [errW_none, errW_some] <;> rfl) | (simp [*, errW_none, errW_some] <;> rfl), by repeat (first | (with_reducible first | exact HB.out | apply below_alloc | apply pw_below_drewN | apply below_drew1) | exact HB.out)⟩

/-- THE ONE PURE STATEMENT of legatelaw03_HmacEqual: yours. -/
def legatelaw03_HmacEqual.Pure : Prop := ∀ (a0 : ByteArray) (a1 : ByteArray), a0.size ≤ 140737488351232 → a1.size ≤ 140737488351232 → ∃ k, legatelaw03_HmacEqual.f k a0 a1 = some true
theorem legatelaw03_HmacEqual.walk (P : legatelaw03_HmacEqual.Pure) (a0 : ByteArray) (a1 : ByteArray) (w : World) (w0 : a0.size ≤ 140737488351232) (w1 : a1.size ≤ 140737488351232) {gw : GW w} :
    Calls Tryd.prog 11 #[.string a0, .string a1] w fun e w' => e = .returned (.bool true) ∧ Below w.heap.size w w' := by
  obtain ⟨k, h⟩ := P a0 a1 w0 w1
  refine (legatelaw03_HmacEqual.calls (gw := gw) k a0 a1 true w h).mono ?_
  rintro e w' ⟨rfl, hd⟩
  exact ⟨rfl, hd⟩

/-! ### legatelaw03_HmacKeys: function 12 -/
mutual
def legatelaw03_HmacKeys.j0 : Nat → ByteArray → Int → ByteArray → Bool → Bool → Option (Bool)
  | 0, _, _, _, _, _ => none
  | k + 1, x0, x1, x2, x7, x28 => if x28 = true then (some x7) else ((hmac_Key.f x0).bind fun t304 => (if (t304.size : Int) = 64 then ((hmac_Mac.f t304 x2).bind fun t305 => ((hmac_Mac.f x0 x2).bind fun t306 => (if t305.toList = t306.toList then ((hmac_Key.f t304).bind fun t307 => (legatelaw03_HmacKeys.j1 k x0 x1 x2 x7 t304 (t307.toList != t304.toList))) else (legatelaw03_HmacKeys.j1 k x0 x1 x2 x7 t304 true)))) else (legatelaw03_HmacKeys.j1 k x0 x1 x2 x7 t304 true)))
def legatelaw03_HmacKeys.j1 : Nat → ByteArray → Int → ByteArray → Bool → ByteArray → Bool → Option (Bool)
  | 0, _, _, _, _, _, _ => none
  | k + 1, x0, x1, x2, x7, x8, x49 => if x49 = true then (some false) else (if (wrap64 ((x0.size : Int) + x1)) > 64 then (some x7) else (if 0 ≤ x1 then (if (x1 : Int).toNat ≤ 281474976710656 then ((some (List.replicate (x1 : Int).toNat 0 : List Int)).bind fun y308 => (if x0.size + (strOfNums y308).size ≤ 9223372036854775807 then (if x7 = true then ((hmac_Mac.f (x0 ++ (strOfNums y308)) x2).bind fun t311 => ((hmac_Mac.f x0 x2).bind fun t312 => (if t311.toList = t312.toList then ((hmac_Key.f (x0 ++ (strOfNums y308))).bind fun t313 => (if t313.toList = x8.toList then (if 0 ≤ (x0.size : Int) then (if (x0.size : Int) ≤ (x8.size : Int) then (some ((x8.extract 0 ((x0.size : Int) : Int).toNat).toList == x0.toList)) else (none)) else (none)) else (some false))) else (some false)))) else (some false)) else (none))) else (none)) else (none)))
end
def legatelaw03_HmacKeys.f (k : Nat) (a0 : ByteArray) (a1 : Int) (a2 : ByteArray) : Option (Bool) := (legatelaw03_works.f k).bind fun t303 => (if t303 = true then (if (a0.size : Int) > 300 then (legatelaw03_HmacKeys.j0 k a0 a1 a2 t303 true) else (if (a2.size : Int) > 300 then (legatelaw03_HmacKeys.j0 k a0 a1 a2 t303 true) else (if a1 < 0 then (legatelaw03_HmacKeys.j0 k a0 a1 a2 t303 true) else (legatelaw03_HmacKeys.j0 k a0 a1 a2 t303 (decide (a1 > 64)))))) else (some false))
theorem legatelaw03_HmacKeys.mono_l : ∀ k, (∀ y0 y1 y2 y3 y4, LeO (legatelaw03_HmacKeys.j0 k y0 y1 y2 y3 y4) (legatelaw03_HmacKeys.j0 (k + 1) y0 y1 y2 y3 y4)) ∧ (∀ y0 y1 y2 y3 y4 y5, LeO (legatelaw03_HmacKeys.j1 k y0 y1 y2 y3 y4 y5) (legatelaw03_HmacKeys.j1 (k + 1) y0 y1 y2 y3 y4 y5))
  | 0 => ⟨fun _ _ _ _ _ r h => by simp [legatelaw03_HmacKeys.j0] at h, fun _ _ _ _ _ _ r h => by simp [legatelaw03_HmacKeys.j1] at h⟩
  | k + 1 => by
    obtain ⟨ih0, ih1⟩ := legatelaw03_HmacKeys.mono_l k
    refine ⟨?_, ?_⟩
    · intro y0 y1 y2 y3 y4
      unfold legatelaw03_HmacKeys.j0
      repeat' first
      | (with_reducible exact ih0 _ _ _ _ _)
      | (with_reducible exact ih1 _ _ _ _ _ _)
      | (with_reducible exact legatelaw03_works.mono _)
      | (with_reducible exact LeO.refl _)
      | (with_reducible exact LeO.none _)
      | (with_reducible refine LeO.ite ?_ ?_)
      | (with_reducible refine LeO.bind ?_ (fun _ => ?_))
      | exact ih0 _ _ _ _ _
      | exact ih1 _ _ _ _ _ _
      | exact legatelaw03_works.mono _
      | exact LeO.none _
      | refine LeO.ite ?_ ?_
      | refine LeO.bind ?_ (fun _ => ?_)
    · intro y0 y1 y2 y3 y4 y5
      unfold legatelaw03_HmacKeys.j1
      repeat' first
      | (with_reducible exact ih0 _ _ _ _ _)
      | (with_reducible exact ih1 _ _ _ _ _ _)
      | (with_reducible exact legatelaw03_works.mono _)
      | (with_reducible exact LeO.refl _)
      | (with_reducible exact LeO.none _)
      | (with_reducible refine LeO.ite ?_ ?_)
      | (with_reducible refine LeO.bind ?_ (fun _ => ?_))
      | exact ih0 _ _ _ _ _
      | exact ih1 _ _ _ _ _ _
      | exact legatelaw03_works.mono _
      | exact LeO.none _
      | refine LeO.ite ?_ ?_
      | refine LeO.bind ?_ (fun _ => ?_)
theorem legatelaw03_HmacKeys.mono : ∀ a0 a1 a2 k, LeO (legatelaw03_HmacKeys.f k a0 a1 a2) (legatelaw03_HmacKeys.f (k + 1) a0 a1 a2) := by
  intro a0 a1 a2 k
  obtain ⟨ih0, ih1⟩ := legatelaw03_HmacKeys.mono_l k
  unfold legatelaw03_HmacKeys.f
  repeat' first
      | (with_reducible exact ih0 _ _ _ _ _)
      | (with_reducible exact ih1 _ _ _ _ _ _)
      | (with_reducible exact legatelaw03_works.mono _)
      | (with_reducible exact LeO.refl _)
      | (with_reducible exact LeO.none _)
      | (with_reducible refine LeO.ite ?_ ?_)
      | (with_reducible refine LeO.bind ?_ (fun _ => ?_))
      | exact ih0 _ _ _ _ _
      | exact ih1 _ _ _ _ _ _
      | exact legatelaw03_works.mono _
      | exact LeO.none _
      | refine LeO.ite ?_ ?_
      | refine LeO.bind ?_ (fun _ => ?_)
set_option maxHeartbeats 8000000 in
set_option maxRecDepth 100000 in
theorem legatelaw03_HmacKeys.calls (k : Nat) (a0 : ByteArray) (a1 : Int) (a2 : ByteArray) (r : Bool) (w : World) {gw : GW w} (h : legatelaw03_HmacKeys.f k a0 a1 a2 = some r) :
    Calls Tryd.prog 12 #[.string a0, .int .i64 a1, .string a2] w fun e w' => e = .returned (.bool r) ∧ Below w.heap.size w w' := by
  have HG := Aside0.mk gw
  clear gw
  have HB := Aside0.mk (Below.refl w.heap.size w)
  have H : ((legatelaw03_works.f k).bind fun t303 => (if t303 = true then (if (a0.size : Int) > 300 then (legatelaw03_HmacKeys.j0 k a0 a1 a2 t303 true) else (if (a2.size : Int) > 300 then (legatelaw03_HmacKeys.j0 k a0 a1 a2 t303 true) else (if a1 < 0 then (legatelaw03_HmacKeys.j0 k a0 a1 a2 t303 true) else (legatelaw03_HmacKeys.j0 k a0 a1 a2 t303 (decide (a1 > 64)))))) else (some false))) = some r := h
  clear h
  replace H := Option.bind_eq_some_iff.mp H
  obtain ⟨t303, A40, H⟩ := H
  replace H : (if t303 = true then (if (a0.size : Int) > 300 then (legatelaw03_HmacKeys.j0 k a0 a1 a2 t303 true) else (if (a2.size : Int) > 300 then (legatelaw03_HmacKeys.j0 k a0 a1 a2 t303 true) else (if a1 < 0 then (legatelaw03_HmacKeys.j0 k a0 a1 a2 t303 true) else (legatelaw03_HmacKeys.j0 k a0 a1 a2 t303 (decide (a1 > 64)))))) else (some false)) = some r := H
  have A4 := Aside0.mk A40
  clear A40
  by_cases c5 : t303 = true
  · subst c5
    have H1 : (if (a0.size : Int) > 300 then (legatelaw03_HmacKeys.j0 k a0 a1 a2 true true) else (if (a2.size : Int) > 300 then (legatelaw03_HmacKeys.j0 k a0 a1 a2 true true) else (if a1 < 0 then (legatelaw03_HmacKeys.j0 k a0 a1 a2 true true) else (legatelaw03_HmacKeys.j0 k a0 a1 a2 true (decide (a1 > 64)))))) = some r := by rw [if_pos rfl] at H; exact H
    clear H
    have H := H1
    clear H1
    have HC6 := Aside0.mk H
    clear H
    go_enter Tryd.func12, Tryd.ntmps12
    go_upto_region 4 with (first | ((with_reducible refine gate_callee (f := 34) rfl ?_); refine goesL_ (some 10) rfl rfl Tryd.func34 (by kernel_rfl) rfl #[] rfl (by (try simp only [List.map_toArray, List.map_cons, List.map_nil]); first | done | rfl | (simp only [List.length_drop, List.length_take]; rfl)) ?_; (with_reducible refine (legatelaw03_works.calls (gw := ?sideG) k  true _ A4.out).mono ?_); (case sideG => exact GW.below HG.out (by repeat (first | (with_reducible first | exact HB.out | apply below_alloc | apply pw_below_drewN | apply below_drew1) | exact HB.out))); rintro e w7 ⟨rfl, hb⟩; refine ⟨_, rfl, ?_⟩; have n0_ := Aside0.mk (below_step (by repeat (first | (with_reducible first | exact HB.out | apply below_alloc | apply pw_below_drewN | apply below_drew1) | exact HB.out)) hb); clear HB; have HB := n0_; clear n0_; (try clear hb); (try clear hb2); (try clear hk); (try clear hi)))
    (try simp only [Act.put, List.setIfInBounds_toArray, List.set_cons_zero, List.set_cons_succ])
    go_cut [28] (fun v28 wc => ∃ (kq : Nat) (x28_5 : Bool), v28 = .bool x28_5 ∧ Aside0 (legatelaw03_HmacKeys.j0 kq a0 a1 a2 true x28_5 = some r) ∧ Aside0 (kq ≤ k) ∧ Aside0 (Below w.heap.size w wc))
    case first =>
      have H := HC6.out
      clear HC6
      by_cases c8 : (a0.size : Int) > 300
      · rw [if_pos c8] at H
        have c8b0 : decide (300 < (a0.size : Int)) = true := decide_eq_true c8
        have c8b1 : decide (300 < a0.size) = true := decide_eq_true (by omega)
        clear c8
        (first | rw [c8b0] | (simp only [i64_w, i32_w]; rw [c8b0]) | skip)
        have H' := Aside0.mk H
        clear H
        go_wp2
        go_meet
        case rel => exact ⟨_, (true), (by first | rfl | (simp; done) | (simp [*]; done)), H', ⟨by first | omega | exact Nat.le_refl _⟩, ⟨by repeat (first | (with_reducible first | exact HB.out | apply below_alloc | apply pw_below_drewN | apply below_drew1) | exact HB.out)⟩⟩
      · rw [if_neg c8] at H
        have c8b0 : decide (300 < (a0.size : Int)) = false := decide_eq_false c8
        have c8b1 : decide (300 < a0.size) = false := decide_eq_false (by omega)
        clear c8
        (first | rw [c8b0] | (simp only [i64_w, i32_w]; rw [c8b0]) | skip)
        by_cases c9 : (a2.size : Int) > 300
        · rw [if_pos c9] at H
          have c9b0 : decide (300 < (a2.size : Int)) = true := decide_eq_true c9
          have c9b1 : decide (300 < a2.size) = true := decide_eq_true (by omega)
          clear c9
          have H' := Aside0.mk H
          clear H
          go_wp2
          go_meet
          case rel => exact ⟨_, (true), (by first | rfl | (simp; done) | (simp [*]; done)), H', ⟨by first | omega | exact Nat.le_refl _⟩, ⟨by repeat (first | (with_reducible first | exact HB.out | apply below_alloc | apply pw_below_drewN | apply below_drew1) | exact HB.out)⟩⟩
        · rw [if_neg c9] at H
          have c9b0 : decide (300 < (a2.size : Int)) = false := decide_eq_false c9
          have c9b1 : decide (300 < a2.size) = false := decide_eq_false (by omega)
          clear c9
          by_cases c10 : a1 < 0
          · rw [if_pos c10] at H
            have c10b0 : decide (a1 < 0) = true := decide_eq_true c10
            clear c10
            have H' := Aside0.mk H
            clear H
            go_wp2
            go_meet
            case rel => exact ⟨_, (true), (by first | rfl | (simp; done) | (simp [*]; done)), H', ⟨by first | omega | exact Nat.le_refl _⟩, ⟨by repeat (first | (with_reducible first | exact HB.out | apply below_alloc | apply pw_below_drewN | apply below_drew1) | exact HB.out)⟩⟩
          · rw [if_neg c10] at H
            have c10b0 : decide (a1 < 0) = false := decide_eq_false c10
            clear c10
            have H' := Aside0.mk H
            clear H
            go_wp2
            go_meet
            case rel => exact ⟨_, (decide (a1 > 64)), (by first | rfl | (simp; done) | (simp [*]; done)), H', ⟨by first | omega | exact Nat.le_refl _⟩, ⟨by repeat (first | (with_reducible first | exact HB.out | apply below_alloc | apply pw_below_drewN | apply below_drew1) | exact HB.out)⟩⟩
    case rest =>
      clear HC6
      try clear c1
      try clear p2
      try clear c3
      try clear c5
      try clear c8
      try clear c8b0
      try clear c8b1
      try clear c9
      try clear c9b0
      try clear c9b1
      try clear c10
      try clear c10b0
      obtain ⟨kq, x28_5, rfl, HA, HJ5, HB⟩ := hcut
      cases kq with
      | zero => exact absurd HA.out (by simp [legatelaw03_HmacKeys.j0])
      | succ kj5 =>
        have H := HA.out
        clear HA
        simp only [legatelaw03_HmacKeys.j0] at H
        by_cases c11 : x28_5 = true
        · subst c11
          have H1 : (some true) = some r := by rw [if_pos rfl] at H; exact H
          clear H
          have H := H1
          clear H1
          obtain rfl := Option.some.inj H
          go_wp2
          go_ret
          exact ⟨by first | rfl | (simp [errW_none, errW_some] <;> rfl) | (simp [*, errW_none, errW_some] <;> rfl), by repeat (first | (with_reducible first | exact HB.out | apply below_alloc | apply pw_below_drewN | apply below_drew1) | exact HB.out)⟩
        · replace c11 := Bool.eq_false_iff.mpr c11
          subst c11
          have H1 : ((hmac_Key.f a0).bind fun t304 => (if (t304.size : Int) = 64 then ((hmac_Mac.f t304 a2).bind fun t305 => ((hmac_Mac.f a0 a2).bind fun t306 => (if t305.toList = t306.toList then ((hmac_Key.f t304).bind fun t307 => (legatelaw03_HmacKeys.j1 kj5 a0 a1 a2 true t304 (t307.toList != t304.toList))) else (legatelaw03_HmacKeys.j1 kj5 a0 a1 a2 true t304 true)))) else (legatelaw03_HmacKeys.j1 kj5 a0 a1 a2 true t304 true))) = some r := by rw [if_neg (show ¬ (false = true) by decide)] at H; exact H
          clear H
          have H := H1
          clear H1
          replace H := Option.bind_eq_some_iff.mp H
          obtain ⟨t304, A120, H⟩ := H
          replace H : (if (t304.size : Int) = 64 then ((hmac_Mac.f t304 a2).bind fun t305 => ((hmac_Mac.f a0 a2).bind fun t306 => (if t305.toList = t306.toList then ((hmac_Key.f t304).bind fun t307 => (legatelaw03_HmacKeys.j1 kj5 a0 a1 a2 true t304 (t307.toList != t304.toList))) else (legatelaw03_HmacKeys.j1 kj5 a0 a1 a2 true t304 true)))) else (legatelaw03_HmacKeys.j1 kj5 a0 a1 a2 true t304 true)) = some r := H
          have A12 := Aside0.mk A120
          clear A120
          have HC13 := Aside0.mk H
          clear H
          go_upto_region 7 with (first | ((with_reducible refine gate_callee (f := 37) rfl ?_); refine goesL_ (some 31) rfl rfl Tryd.func37 (by kernel_rfl) rfl #[.string a0] rfl (by (try simp only [List.map_toArray, List.map_cons, List.map_nil]); first | done | rfl | (simp only [List.length_drop, List.length_take]; rfl)) ?_; (with_reducible refine (hmac_Key.calls (gw := ?sideG) a0 t304 _ A12.out).mono ?_); (case sideG => exact GW.below HG.out (by repeat (first | (with_reducible first | exact HB.out | apply below_alloc | apply pw_below_drewN | apply below_drew1) | exact HB.out))); rintro e w14 ⟨rfl, hb⟩; refine ⟨_, rfl, ?_⟩; have n0_ := Aside0.mk (below_step (by repeat (first | (with_reducible first | exact HB.out | apply below_alloc | apply pw_below_drewN | apply below_drew1) | exact HB.out)) hb); clear HB; have HB := n0_; clear n0_; (try clear hb); (try clear hb2); (try clear hk); (try clear hi)))
          (try simp only [Act.put, List.setIfInBounds_toArray, List.set_cons_zero, List.set_cons_succ])
          go_cut [49] (fun v49 wc => ∃ (kq : Nat) (x49_12 : Bool), v49 = .bool x49_12 ∧ Aside0 (legatelaw03_HmacKeys.j1 kq a0 a1 a2 true t304 x49_12 = some r) ∧ Aside0 (kq ≤ kj5) ∧ Aside0 (Below w.heap.size w wc))
          case first =>
            have H := HC13.out
            clear HC13
            by_cases c15 : (t304.size : Int) = 64
            · rw [if_pos c15] at H
              have c15b0 : ((t304.size : Int) == 64) = true := beq_iff_eq.mpr c15
              have c15b1 : ((t304.size : Int) != 64) = false := bne_eq_false_iff_eq.mpr c15
              clear c15
              (first | rw [c15b0] | (simp only [i64_w, i32_w]; rw [c15b0]) | skip)
              replace H := Option.bind_eq_some_iff.mp H
              obtain ⟨t305, A160, H⟩ := H
              replace H : ((hmac_Mac.f a0 a2).bind fun t306 => (if t305.toList = t306.toList then ((hmac_Key.f t304).bind fun t307 => (legatelaw03_HmacKeys.j1 kj5 a0 a1 a2 true t304 (t307.toList != t304.toList))) else (legatelaw03_HmacKeys.j1 kj5 a0 a1 a2 true t304 true))) = some r := H
              have A16 := Aside0.mk A160
              clear A160
              replace H := Option.bind_eq_some_iff.mp H
              obtain ⟨t306, A170, H⟩ := H
              replace H : (if t305.toList = t306.toList then ((hmac_Key.f t304).bind fun t307 => (legatelaw03_HmacKeys.j1 kj5 a0 a1 a2 true t304 (t307.toList != t304.toList))) else (legatelaw03_HmacKeys.j1 kj5 a0 a1 a2 true t304 true)) = some r := H
              have A17 := Aside0.mk A170
              clear A170
              by_cases c18 : t305.toList = t306.toList
              · rw [if_pos c18] at H
                have c18b0 : (t305.toList == t306.toList) = true := beq_iff_eq.mpr c18
                have c18b1 : (t305.toList != t306.toList) = false := bne_eq_false_iff_eq.mpr c18
                clear c18
                replace H := Option.bind_eq_some_iff.mp H
                obtain ⟨t307, A190, H⟩ := H
                replace H : (legatelaw03_HmacKeys.j1 kj5 a0 a1 a2 true t304 (t307.toList != t304.toList)) = some r := H
                have A19 := Aside0.mk A190
                clear A190
                have H' := Aside0.mk H
                clear H
                go_wp2_with (first | (go_at_call 31; (with_reducible refine (hmac_Mac.calls (gw := ?sideG) t304 a2 t305 _ A16.out).mono ?_); (case sideG => exact GW.below HG.out (by repeat (first | (with_reducible first | exact HB.out | apply below_alloc | apply pw_below_drewN | apply below_drew1) | exact HB.out))); rintro e w20 ⟨rfl, hb⟩; have n0_ := Aside0.mk (below_step (by repeat (first | (with_reducible first | exact HB.out | apply below_alloc | apply pw_below_drewN | apply below_drew1) | exact HB.out)) hb); clear HB; have HB := n0_; clear n0_; (try clear hb); (try clear hb2); (try clear hk); (try clear hi)) | (go_at_call 31; (with_reducible refine (hmac_Mac.calls (gw := ?sideG) a0 a2 t306 _ A17.out).mono ?_); (case sideG => exact GW.below HG.out (by repeat (first | (with_reducible first | exact HB.out | apply below_alloc | apply pw_below_drewN | apply below_drew1) | exact HB.out))); rintro e w21 ⟨rfl, hb⟩; have n0_ := Aside0.mk (below_step (by repeat (first | (with_reducible first | exact HB.out | apply below_alloc | apply pw_below_drewN | apply below_drew1) | exact HB.out)) hb); clear HB; have HB := n0_; clear n0_; (try clear hb); (try clear hb2); (try clear hk); (try clear hi)) | (go_at_call 37; (with_reducible refine (hmac_Key.calls (gw := ?sideG) t304 t307 _ A19.out).mono ?_); (case sideG => exact GW.below HG.out (by repeat (first | (with_reducible first | exact HB.out | apply below_alloc | apply pw_below_drewN | apply below_drew1) | exact HB.out))); rintro e w22 ⟨rfl, hb⟩; have n0_ := Aside0.mk (below_step (by repeat (first | (with_reducible first | exact HB.out | apply below_alloc | apply pw_below_drewN | apply below_drew1) | exact HB.out)) hb); clear HB; have HB := n0_; clear n0_; (try clear hb); (try clear hb2); (try clear hk); (try clear hi)))
                go_meet
                case rel => exact ⟨_, ((t307.toList != t304.toList)), (by first | rfl | (simp; done) | (simp [*]; done)), H', ⟨by have := HJ5.out; first | omega | exact Nat.le_refl _⟩, ⟨by repeat (first | (with_reducible first | exact HB.out | apply below_alloc | apply pw_below_drewN | apply below_drew1) | exact HB.out)⟩⟩
              · rw [if_neg c18] at H
                have c18b0 : (t305.toList == t306.toList) = false := beq_eq_false_iff_ne.mpr c18
                have c18b1 : (t305.toList != t306.toList) = true := bne_iff_ne.mpr c18
                have H' := Aside0.mk H
                clear H
                go_wp2_with (first | (go_at_call 31; (with_reducible refine (hmac_Mac.calls (gw := ?sideG) t304 a2 t305 _ A16.out).mono ?_); (case sideG => exact GW.below HG.out (by repeat (first | (with_reducible first | exact HB.out | apply below_alloc | apply pw_below_drewN | apply below_drew1) | exact HB.out))); rintro e w23 ⟨rfl, hb⟩; have n0_ := Aside0.mk (below_step (by repeat (first | (with_reducible first | exact HB.out | apply below_alloc | apply pw_below_drewN | apply below_drew1) | exact HB.out)) hb); clear HB; have HB := n0_; clear n0_; (try clear hb); (try clear hb2); (try clear hk); (try clear hi)) | (go_at_call 31; (with_reducible refine (hmac_Mac.calls (gw := ?sideG) a0 a2 t306 _ A17.out).mono ?_); (case sideG => exact GW.below HG.out (by repeat (first | (with_reducible first | exact HB.out | apply below_alloc | apply pw_below_drewN | apply below_drew1) | exact HB.out))); rintro e w24 ⟨rfl, hb⟩; have n0_ := Aside0.mk (below_step (by repeat (first | (with_reducible first | exact HB.out | apply below_alloc | apply pw_below_drewN | apply below_drew1) | exact HB.out)) hb); clear HB; have HB := n0_; clear n0_; (try clear hb); (try clear hb2); (try clear hk); (try clear hi)))
                go_meet
                case rel => exact ⟨_, (true), (by first | rfl | (simp; done) | (simp [*]; done)), H', ⟨by have := HJ5.out; first | omega | exact Nat.le_refl _⟩, ⟨by repeat (first | (with_reducible first | exact HB.out | apply below_alloc | apply pw_below_drewN | apply below_drew1) | exact HB.out)⟩⟩
            · rw [if_neg c15] at H
              have c15b0 : ((t304.size : Int) == 64) = false := beq_eq_false_iff_ne.mpr c15
              have c15b1 : ((t304.size : Int) != 64) = true := bne_iff_ne.mpr c15
              (first | rw [c15b0] | (simp only [i64_w, i32_w]; rw [c15b0]) | skip)
              have H' := Aside0.mk H
              clear H
              go_wp2
              go_meet
              case rel => exact ⟨_, (true), (by first | rfl | (simp; done) | (simp [*]; done)), H', ⟨by have := HJ5.out; first | omega | exact Nat.le_refl _⟩, ⟨by repeat (first | (with_reducible first | exact HB.out | apply below_alloc | apply pw_below_drewN | apply below_drew1) | exact HB.out)⟩⟩
          case rest =>
            clear HC13
            try clear c1
            try clear p2
            try clear c3
            try clear c5
            try clear c8
            try clear c8b0
            try clear c8b1
            try clear c9
            try clear c9b0
            try clear c9b1
            try clear c10
            try clear c10b0
            try clear c11
            try clear c12
            try clear c15
            try clear c15b0
            try clear c15b1
            try clear c18
            try clear c18b0
            try clear c18b1
            try clear p2
            obtain ⟨kq, x49_12, rfl, HA, HJ12, HB⟩ := hcut
            cases kq with
            | zero => exact absurd HA.out (by simp [legatelaw03_HmacKeys.j1])
            | succ kj12 =>
              have H := HA.out
              clear HA
              simp only [legatelaw03_HmacKeys.j1] at H
              by_cases c25 : x49_12 = true
              · subst c25
                have H1 : (some false) = some r := by rw [if_pos rfl] at H; exact H
                clear H
                have H := H1
                clear H1
                obtain rfl := Option.some.inj H
                go_wp2
                go_ret
                exact ⟨by first | rfl | (simp [errW_none, errW_some] <;> rfl) | (simp [*, errW_none, errW_some] <;> rfl), by repeat (first | (with_reducible first | exact HB.out | apply below_alloc | apply pw_below_drewN | apply below_drew1) | exact HB.out)⟩
              · replace c25 := Bool.eq_false_iff.mpr c25
                subst c25
                have H1 : (if (wrap64 ((a0.size : Int) + a1)) > 64 then (some true) else (if 0 ≤ a1 then (if (a1 : Int).toNat ≤ 281474976710656 then ((some (List.replicate (a1 : Int).toNat 0 : List Int)).bind fun y308 => (if a0.size + (strOfNums y308).size ≤ 9223372036854775807 then (if true = true then ((hmac_Mac.f (a0 ++ (strOfNums y308)) a2).bind fun t311 => ((hmac_Mac.f a0 a2).bind fun t312 => (if t311.toList = t312.toList then ((hmac_Key.f (a0 ++ (strOfNums y308))).bind fun t313 => (if t313.toList = t304.toList then (if 0 ≤ (a0.size : Int) then (if (a0.size : Int) ≤ (t304.size : Int) then (some ((t304.extract 0 ((a0.size : Int) : Int).toNat).toList == a0.toList)) else (none)) else (none)) else (some false))) else (some false)))) else (some false)) else (none))) else (none)) else (none))) = some r := by rw [if_neg (show ¬ (false = true) by decide)] at H; exact H
                clear H
                have H := H1
                clear H1
                by_cases c26 : (wrap64 ((a0.size : Int) + a1)) > 64
                · rw [if_pos c26] at H
                  have c26b0 : decide (64 < (wrap64 ((a0.size : Int) + a1))) = true := decide_eq_true c26
                  have c26b0z := c26b0
                  (try simp only [ByteArray.size_append, Int.natCast_add] at c26b0z)
                  clear c26
                  obtain rfl := Option.some.inj H
                  go_wp2
                  go_ret
                  exact ⟨by first | rfl | (simp [errW_none, errW_some] <;> rfl) | (simp [*, errW_none, errW_some] <;> rfl), by repeat (first | (with_reducible first | exact HB.out | apply below_alloc | apply pw_below_drewN | apply below_drew1) | exact HB.out)⟩
                · rw [if_neg c26] at H
                  have c26b0 : decide (64 < (wrap64 ((a0.size : Int) + a1))) = false := decide_eq_false c26
                  clear c26
                  by_cases c27 : 0 ≤ a1
                  · rw [if_pos c27] at H
                    have c27b0 := eq_true c27
                    have c27b1 : decide (0 ≤ a1) = true := decide_eq_true c27
                    clear c27
                    by_cases c28 : (a1 : Int).toNat ≤ 281474976710656
                    · rw [if_pos c28] at H
                      have c28b0 := eq_true c28
                      have c28b1 : decide ((a1 : Int).toNat ≤ 281474976710656) = true := decide_eq_true c28
                      clear c28
                      obtain ⟨y308, hy308⟩ : ∃ y_ : List Int, y_ = (List.replicate (a1 : Int).toNat 0) := ⟨_, rfl⟩
                      replace H : (if a0.size + (strOfNums y308).size ≤ 9223372036854775807 then (if true = true then ((hmac_Mac.f (a0 ++ (strOfNums y308)) a2).bind fun t311 => ((hmac_Mac.f a0 a2).bind fun t312 => (if t311.toList = t312.toList then ((hmac_Key.f (a0 ++ (strOfNums y308))).bind fun t313 => (if t313.toList = t304.toList then (if 0 ≤ (a0.size : Int) then (if (a0.size : Int) ≤ (t304.size : Int) then (some ((t304.extract 0 ((a0.size : Int) : Int).toNat).toList == a0.toList)) else (none)) else (none)) else (some false))) else (some false)))) else (some false)) else (none)) = some r := by first | (rw [hy308]; with_reducible exact H) | (have H2_ := (Option.bind_some _ _).symm.trans H; rw [hy308]; with_reducible exact H2_) | (have H2_ := (Option.bind_some _ _).symm.trans H; with_reducible exact H2_) | with_reducible exact H | (rw [hy308]; exact H) | exact H
                      have Ny308 := Aside0.mk hy308
                      clear hy308
                      by_cases c29 : a0.size + (strOfNums y308).size ≤ 9223372036854775807
                      · rw [if_pos c29] at H
                        have c29b0 := eq_true c29
                        have c29b0z := c29b0
                        (try simp only [ByteArray.size_append, Int.natCast_add] at c29b0z)
                        have c29b1 : decide (a0.size + (strOfNums y308).size ≤ 9223372036854775807) = true := decide_eq_true c29
                        have c29b1z := c29b1
                        (try simp only [ByteArray.size_append, Int.natCast_add] at c29b1z)
                        try have c29b2 : (9223372036854775807 < a0.size + (strOfNums y308).size) = False := eq_false (Nat.not_lt.2 c29)
                        by_cases c30 : true = true
                        · clear c30
                          have H1 : ((hmac_Mac.f (a0 ++ (strOfNums y308)) a2).bind fun t311 => ((hmac_Mac.f a0 a2).bind fun t312 => (if t311.toList = t312.toList then ((hmac_Key.f (a0 ++ (strOfNums y308))).bind fun t313 => (if t313.toList = t304.toList then (if 0 ≤ (a0.size : Int) then (if (a0.size : Int) ≤ (t304.size : Int) then (some ((t304.extract 0 ((a0.size : Int) : Int).toNat).toList == a0.toList)) else (none)) else (none)) else (some false))) else (some false)))) = some r := by first | (rw [if_pos rfl] at H; exact H) | (rw [if_pos trivial] at H; exact H) | simpa using H
                          clear H
                          have H := H1
                          clear H1
                          replace H := Option.bind_eq_some_iff.mp H
                          obtain ⟨t311, A310, H⟩ := H
                          replace H : ((hmac_Mac.f a0 a2).bind fun t312 => (if t311.toList = t312.toList then ((hmac_Key.f (a0 ++ (strOfNums y308))).bind fun t313 => (if t313.toList = t304.toList then (if 0 ≤ (a0.size : Int) then (if (a0.size : Int) ≤ (t304.size : Int) then (some ((t304.extract 0 ((a0.size : Int) : Int).toNat).toList == a0.toList)) else (none)) else (none)) else (some false))) else (some false))) = some r := H
                          have A31 := Aside0.mk A310
                          clear A310
                          replace H := Option.bind_eq_some_iff.mp H
                          obtain ⟨t312, A320, H⟩ := H
                          replace H : (if t311.toList = t312.toList then ((hmac_Key.f (a0 ++ (strOfNums y308))).bind fun t313 => (if t313.toList = t304.toList then (if 0 ≤ (a0.size : Int) then (if (a0.size : Int) ≤ (t304.size : Int) then (some ((t304.extract 0 ((a0.size : Int) : Int).toNat).toList == a0.toList)) else (none)) else (none)) else (some false))) else (some false)) = some r := H
                          have A32 := Aside0.mk A320
                          clear A320
                          by_cases c33 : t311.toList = t312.toList
                          · rw [if_pos c33] at H
                            have c33b0 : (t311.toList == t312.toList) = true := beq_iff_eq.mpr c33
                            have c33b1 : (t311.toList != t312.toList) = false := bne_eq_false_iff_eq.mpr c33
                            clear c33
                            replace H := Option.bind_eq_some_iff.mp H
                            obtain ⟨t313, A340, H⟩ := H
                            replace H : (if t313.toList = t304.toList then (if 0 ≤ (a0.size : Int) then (if (a0.size : Int) ≤ (t304.size : Int) then (some ((t304.extract 0 ((a0.size : Int) : Int).toNat).toList == a0.toList)) else (none)) else (none)) else (some false)) = some r := H
                            have A34 := Aside0.mk A340
                            clear A340
                            by_cases c35 : t313.toList = t304.toList
                            · rw [if_pos c35] at H
                              have c35b0 : (t313.toList == t304.toList) = true := beq_iff_eq.mpr c35
                              have c35b1 : (t313.toList != t304.toList) = false := bne_eq_false_iff_eq.mpr c35
                              clear c35
                              by_cases c36 : 0 ≤ (a0.size : Int)
                              · rw [if_pos c36] at H
                                have c36b0 := eq_true c36
                                have c36b1 : decide (0 ≤ (a0.size : Int)) = true := decide_eq_true c36
                                clear c36
                                by_cases c37 : (a0.size : Int) ≤ (t304.size : Int)
                                · rw [if_pos c37] at H
                                  have c37b0 := eq_true c37
                                  have c37b1 : decide ((a0.size : Int) ≤ (t304.size : Int)) = true := decide_eq_true c37
                                  clear c37
                                  obtain rfl := Option.some.inj H
                                  go_wp2_with (first | ((with_reducible refine gate_dst (N := 58) rfl ?_); (try (refine gate_guard (by rfl) ?_; dsimp only)); refine Kd.R_make (Kd.int .u8) _ 5 rfl (N := 58) rfl 44 _ _ rfl a1 rfl rfl Tryd.underlying44 (.int .u8 0) 1 info5 rfl (by decide) (by omega) 0 (ok := fun _ => True) (okp := fun _ => True) rfl (fun _ hk => hk) trivial (of_decide_eq_true (by first | (with_reducible assumption) | assumption)) (Nat.le_trans (Nat.mul_le_mul_right _ (of_decide_eq_true (by first | (with_reducible assumption) | assumption) : a1.toNat ≤ 281474976710656)) (by omega)) (Below.refl _ _) (Nat.le_refl _) ?_; intro v309 w38 ho39 hb hg_ hnew_; clear hg_ hnew_; (first | rw [← Ny308.out] at ho39 | (simp only [Int.reduceToNat] at ho39; rw [← Ny308.out] at ho39)); have n0_ := Aside0.mk (Kd.R_lower ho39 (below_size (by repeat (first | (with_reducible first | exact HB.out | apply below_alloc | apply pw_below_drewN | apply below_drew1) | exact HB.out)))); have n1_ := Aside0.mk (below_step (by repeat (first | (with_reducible first | exact HB.out | apply below_alloc | apply pw_below_drewN | apply below_drew1) | exact HB.out)) hb); clear HB; have HO310 := n0_; have HB := n1_; clear n0_ n1_; clear hb ho39; have hcv40 := own_string (P := Tryd.prog) Tryd.underlying44 Tryd.underlying5 Tryd.underlying9 (Kd.own_of_R HO310.out)) | (go_at_call 31; (with_reducible refine (hmac_Mac.calls (gw := ?sideG) (a0 ++ (strOfNums y308)) a2 t311 _ A31.out).mono ?_); (case sideG => exact GW.below HG.out (by repeat (first | (with_reducible first | exact HB.out | apply below_alloc | apply pw_below_drewN | apply below_drew1) | exact HB.out))); rintro e w41 ⟨rfl, hb⟩; have n0_ := Aside0.mk (Kd.R_below (by (with_reducible repeat (first | apply Kd.R_alloc | apply Kd.R_drewN | apply Kd.R_drew)); exact HO310.out) hb); have n1_ := Aside0.mk (below_step (by repeat (first | (with_reducible first | exact HB.out | apply below_alloc | apply pw_below_drewN | apply below_drew1) | exact HB.out)) hb); clear HO310; clear HB; have HO310 := n0_; have HB := n1_; clear n0_ n1_; (try clear hb); (try clear hb2); (try clear hk); (try clear hi)) | (go_at_call 31; (with_reducible refine (hmac_Mac.calls (gw := ?sideG) a0 a2 t312 _ A32.out).mono ?_); (case sideG => exact GW.below HG.out (by repeat (first | (with_reducible first | exact HB.out | apply below_alloc | apply pw_below_drewN | apply below_drew1) | exact HB.out))); rintro e w42 ⟨rfl, hb⟩; have n0_ := Aside0.mk (Kd.R_below (by (with_reducible repeat (first | apply Kd.R_alloc | apply Kd.R_drewN | apply Kd.R_drew)); exact HO310.out) hb); have n1_ := Aside0.mk (below_step (by repeat (first | (with_reducible first | exact HB.out | apply below_alloc | apply pw_below_drewN | apply below_drew1) | exact HB.out)) hb); clear HO310; clear HB; have HO310 := n0_; have HB := n1_; clear n0_ n1_; (try clear hb); (try clear hb2); (try clear hk); (try clear hi)) | (go_at_call 37; (with_reducible refine (hmac_Key.calls (gw := ?sideG) (a0 ++ (strOfNums y308)) t313 _ A34.out).mono ?_); (case sideG => exact GW.below HG.out (by repeat (first | (with_reducible first | exact HB.out | apply below_alloc | apply pw_below_drewN | apply below_drew1) | exact HB.out))); rintro e w43 ⟨rfl, hb⟩; have n0_ := Aside0.mk (Kd.R_below (by (with_reducible repeat (first | apply Kd.R_alloc | apply Kd.R_drewN | apply Kd.R_drew)); exact HO310.out) hb); have n1_ := Aside0.mk (below_step (by repeat (first | (with_reducible first | exact HB.out | apply below_alloc | apply pw_below_drewN | apply below_drew1) | exact HB.out)) hb); clear HO310; clear HB; have HO310 := n0_; have HB := n1_; clear n0_ n1_; (try clear hb); (try clear hb2); (try clear hk); (try clear hi)))
                                  go_ret
                                  exact ⟨by first | rfl | (simp [errW_none, errW_some] <;> rfl) | (simp [*, errW_none, errW_some] <;> rfl), by repeat (first | (with_reducible first | exact HB.out | apply below_alloc | apply pw_below_drewN | apply below_drew1) | exact HB.out)⟩
                                · rw [if_neg c37] at H
                                  exact absurd H (by simp)
                              · rw [if_neg c36] at H
                                exact absurd H (by simp)
                            · rw [if_neg c35] at H
                              have c35b0 : (t313.toList == t304.toList) = false := beq_eq_false_iff_ne.mpr c35
                              have c35b1 : (t313.toList != t304.toList) = true := bne_iff_ne.mpr c35
                              obtain rfl := Option.some.inj H
                              go_wp2_with (first | ((with_reducible refine gate_dst (N := 58) rfl ?_); (try (refine gate_guard (by rfl) ?_; dsimp only)); refine Kd.R_make (Kd.int .u8) _ 5 rfl (N := 58) rfl 44 _ _ rfl a1 rfl rfl Tryd.underlying44 (.int .u8 0) 1 info5 rfl (by decide) (by omega) 0 (ok := fun _ => True) (okp := fun _ => True) rfl (fun _ hk => hk) trivial (of_decide_eq_true (by first | (with_reducible assumption) | assumption)) (Nat.le_trans (Nat.mul_le_mul_right _ (of_decide_eq_true (by first | (with_reducible assumption) | assumption) : a1.toNat ≤ 281474976710656)) (by omega)) (Below.refl _ _) (Nat.le_refl _) ?_; intro v309 w44 ho45 hb hg_ hnew_; clear hg_ hnew_; (first | rw [← Ny308.out] at ho45 | (simp only [Int.reduceToNat] at ho45; rw [← Ny308.out] at ho45)); have n0_ := Aside0.mk (Kd.R_lower ho45 (below_size (by repeat (first | (with_reducible first | exact HB.out | apply below_alloc | apply pw_below_drewN | apply below_drew1) | exact HB.out)))); have n1_ := Aside0.mk (below_step (by repeat (first | (with_reducible first | exact HB.out | apply below_alloc | apply pw_below_drewN | apply below_drew1) | exact HB.out)) hb); clear HB; have HO310 := n0_; have HB := n1_; clear n0_ n1_; clear hb ho45; have hcv46 := own_string (P := Tryd.prog) Tryd.underlying44 Tryd.underlying5 Tryd.underlying9 (Kd.own_of_R HO310.out)) | (go_at_call 31; (with_reducible refine (hmac_Mac.calls (gw := ?sideG) (a0 ++ (strOfNums y308)) a2 t311 _ A31.out).mono ?_); (case sideG => exact GW.below HG.out (by repeat (first | (with_reducible first | exact HB.out | apply below_alloc | apply pw_below_drewN | apply below_drew1) | exact HB.out))); rintro e w47 ⟨rfl, hb⟩; have n0_ := Aside0.mk (Kd.R_below (by (with_reducible repeat (first | apply Kd.R_alloc | apply Kd.R_drewN | apply Kd.R_drew)); exact HO310.out) hb); have n1_ := Aside0.mk (below_step (by repeat (first | (with_reducible first | exact HB.out | apply below_alloc | apply pw_below_drewN | apply below_drew1) | exact HB.out)) hb); clear HO310; clear HB; have HO310 := n0_; have HB := n1_; clear n0_ n1_; (try clear hb); (try clear hb2); (try clear hk); (try clear hi)) | (go_at_call 31; (with_reducible refine (hmac_Mac.calls (gw := ?sideG) a0 a2 t312 _ A32.out).mono ?_); (case sideG => exact GW.below HG.out (by repeat (first | (with_reducible first | exact HB.out | apply below_alloc | apply pw_below_drewN | apply below_drew1) | exact HB.out))); rintro e w48 ⟨rfl, hb⟩; have n0_ := Aside0.mk (Kd.R_below (by (with_reducible repeat (first | apply Kd.R_alloc | apply Kd.R_drewN | apply Kd.R_drew)); exact HO310.out) hb); have n1_ := Aside0.mk (below_step (by repeat (first | (with_reducible first | exact HB.out | apply below_alloc | apply pw_below_drewN | apply below_drew1) | exact HB.out)) hb); clear HO310; clear HB; have HO310 := n0_; have HB := n1_; clear n0_ n1_; (try clear hb); (try clear hb2); (try clear hk); (try clear hi)) | (go_at_call 37; (with_reducible refine (hmac_Key.calls (gw := ?sideG) (a0 ++ (strOfNums y308)) t313 _ A34.out).mono ?_); (case sideG => exact GW.below HG.out (by repeat (first | (with_reducible first | exact HB.out | apply below_alloc | apply pw_below_drewN | apply below_drew1) | exact HB.out))); rintro e w49 ⟨rfl, hb⟩; have n0_ := Aside0.mk (Kd.R_below (by (with_reducible repeat (first | apply Kd.R_alloc | apply Kd.R_drewN | apply Kd.R_drew)); exact HO310.out) hb); have n1_ := Aside0.mk (below_step (by repeat (first | (with_reducible first | exact HB.out | apply below_alloc | apply pw_below_drewN | apply below_drew1) | exact HB.out)) hb); clear HO310; clear HB; have HO310 := n0_; have HB := n1_; clear n0_ n1_; (try clear hb); (try clear hb2); (try clear hk); (try clear hi)))
                              go_ret
                              exact ⟨by first | rfl | (simp [errW_none, errW_some] <;> rfl) | (simp [*, errW_none, errW_some] <;> rfl), by repeat (first | (with_reducible first | exact HB.out | apply below_alloc | apply pw_below_drewN | apply below_drew1) | exact HB.out)⟩
                          · rw [if_neg c33] at H
                            have c33b0 : (t311.toList == t312.toList) = false := beq_eq_false_iff_ne.mpr c33
                            have c33b1 : (t311.toList != t312.toList) = true := bne_iff_ne.mpr c33
                            obtain rfl := Option.some.inj H
                            go_wp2_with (first | ((with_reducible refine gate_dst (N := 58) rfl ?_); (try (refine gate_guard (by rfl) ?_; dsimp only)); refine Kd.R_make (Kd.int .u8) _ 5 rfl (N := 58) rfl 44 _ _ rfl a1 rfl rfl Tryd.underlying44 (.int .u8 0) 1 info5 rfl (by decide) (by omega) 0 (ok := fun _ => True) (okp := fun _ => True) rfl (fun _ hk => hk) trivial (of_decide_eq_true (by first | (with_reducible assumption) | assumption)) (Nat.le_trans (Nat.mul_le_mul_right _ (of_decide_eq_true (by first | (with_reducible assumption) | assumption) : a1.toNat ≤ 281474976710656)) (by omega)) (Below.refl _ _) (Nat.le_refl _) ?_; intro v309 w50 ho51 hb hg_ hnew_; clear hg_ hnew_; (first | rw [← Ny308.out] at ho51 | (simp only [Int.reduceToNat] at ho51; rw [← Ny308.out] at ho51)); have n0_ := Aside0.mk (Kd.R_lower ho51 (below_size (by repeat (first | (with_reducible first | exact HB.out | apply below_alloc | apply pw_below_drewN | apply below_drew1) | exact HB.out)))); have n1_ := Aside0.mk (below_step (by repeat (first | (with_reducible first | exact HB.out | apply below_alloc | apply pw_below_drewN | apply below_drew1) | exact HB.out)) hb); clear HB; have HO310 := n0_; have HB := n1_; clear n0_ n1_; clear hb ho51; have hcv52 := own_string (P := Tryd.prog) Tryd.underlying44 Tryd.underlying5 Tryd.underlying9 (Kd.own_of_R HO310.out)) | (go_at_call 31; (with_reducible refine (hmac_Mac.calls (gw := ?sideG) (a0 ++ (strOfNums y308)) a2 t311 _ A31.out).mono ?_); (case sideG => exact GW.below HG.out (by repeat (first | (with_reducible first | exact HB.out | apply below_alloc | apply pw_below_drewN | apply below_drew1) | exact HB.out))); rintro e w53 ⟨rfl, hb⟩; have n0_ := Aside0.mk (Kd.R_below (by (with_reducible repeat (first | apply Kd.R_alloc | apply Kd.R_drewN | apply Kd.R_drew)); exact HO310.out) hb); have n1_ := Aside0.mk (below_step (by repeat (first | (with_reducible first | exact HB.out | apply below_alloc | apply pw_below_drewN | apply below_drew1) | exact HB.out)) hb); clear HO310; clear HB; have HO310 := n0_; have HB := n1_; clear n0_ n1_; (try clear hb); (try clear hb2); (try clear hk); (try clear hi)) | (go_at_call 31; (with_reducible refine (hmac_Mac.calls (gw := ?sideG) a0 a2 t312 _ A32.out).mono ?_); (case sideG => exact GW.below HG.out (by repeat (first | (with_reducible first | exact HB.out | apply below_alloc | apply pw_below_drewN | apply below_drew1) | exact HB.out))); rintro e w54 ⟨rfl, hb⟩; have n0_ := Aside0.mk (Kd.R_below (by (with_reducible repeat (first | apply Kd.R_alloc | apply Kd.R_drewN | apply Kd.R_drew)); exact HO310.out) hb); have n1_ := Aside0.mk (below_step (by repeat (first | (with_reducible first | exact HB.out | apply below_alloc | apply pw_below_drewN | apply below_drew1) | exact HB.out)) hb); clear HO310; clear HB; have HO310 := n0_; have HB := n1_; clear n0_ n1_; (try clear hb); (try clear hb2); (try clear hk); (try clear hi)))
                            go_ret
                            exact ⟨by first | rfl | (simp [errW_none, errW_some] <;> rfl) | (simp [*, errW_none, errW_some] <;> rfl), by repeat (first | (with_reducible first | exact HB.out | apply below_alloc | apply pw_below_drewN | apply below_drew1) | exact HB.out)⟩
                        · exact absurd rfl c30
                      · rw [if_neg c29] at H
                        exact absurd H (by simp)
                    · rw [if_neg c28] at H
                      exact absurd H (by simp)
                  · rw [if_neg c27] at H
                    exact absurd H (by simp)
  · replace c5 := Bool.eq_false_iff.mpr c5
    subst c5
    have H1 : (some false) = some r := by rw [if_neg (show ¬ (false = true) by decide)] at H; exact H
    clear H
    have H := H1
    clear H1
    obtain rfl := Option.some.inj H
    go_enter Tryd.func12, Tryd.ntmps12
    go_wp2_with (first | ((with_reducible refine gate_callee (f := 34) rfl ?_); refine goesL_ (some 10) rfl rfl Tryd.func34 (by kernel_rfl) rfl #[] rfl (by (try simp only [List.map_toArray, List.map_cons, List.map_nil]); first | done | rfl | (simp only [List.length_drop, List.length_take]; rfl)) ?_; (with_reducible refine (legatelaw03_works.calls (gw := ?sideG) k  false _ A4.out).mono ?_); (case sideG => exact GW.below HG.out (by repeat (first | (with_reducible first | exact HB.out | apply below_alloc | apply pw_below_drewN | apply below_drew1) | exact HB.out))); rintro e w58 ⟨rfl, hb⟩; refine ⟨_, rfl, ?_⟩; have n0_ := Aside0.mk (below_step (by repeat (first | (with_reducible first | exact HB.out | apply below_alloc | apply pw_below_drewN | apply below_drew1) | exact HB.out)) hb); clear HB; have HB := n0_; clear n0_; (try clear hb); (try clear hb2); (try clear hk); (try clear hi)))
    go_ret
    exact ⟨by first | rfl | (simp [errW_none, errW_some] <;> rfl) | (simp [*, errW_none, errW_some] <;> rfl), by repeat (first | (with_reducible first | exact HB.out | apply below_alloc | apply pw_below_drewN | apply below_drew1) | exact HB.out)⟩

/-- THE ONE PURE STATEMENT of legatelaw03_HmacKeys: yours. -/
def legatelaw03_HmacKeys.Pure : Prop := ∀ (a0 : ByteArray) (a1 : Int) (a2 : ByteArray), a0.size ≤ 140737488351232 → (Lit.int .i64 a1).wf = true → a2.size ≤ 140737488351232 → ∃ k, legatelaw03_HmacKeys.f k a0 a1 a2 = some true
theorem legatelaw03_HmacKeys.walk (P : legatelaw03_HmacKeys.Pure) (a0 : ByteArray) (a1 : Int) (a2 : ByteArray) (w : World) (w0 : a0.size ≤ 140737488351232) (w1 : (Lit.int .i64 a1).wf = true) (w2 : a2.size ≤ 140737488351232) {gw : GW w} :
    Calls Tryd.prog 12 #[.string a0, .int .i64 a1, .string a2] w fun e w' => e = .returned (.bool true) ∧ Below w.heap.size w w' := by
  obtain ⟨k, h⟩ := P a0 a1 a2 w0 w1 w2
  refine (legatelaw03_HmacKeys.calls (gw := gw) k a0 a1 a2 true w h).mono ?_
  rintro e w' ⟨rfl, hd⟩
  exact ⟨rfl, hd⟩

/-! ### legatelaw03_HmacSums: function 13 -/
mutual
def legatelaw03_HmacSums.j0 : Nat → ByteArray → ByteArray → Bool → Bool → Option (Bool)
  | 0, _, _, _, _ => none
  | k + 1, x0, x1, x5, x20 => if x20 = true then (some x5) else ((hmac_Key.f x0).bind fun t315 => (legatelaw03_HmacSums.l0 k x0 x1 x5 t315 (⟨#[]⟩ : ByteArray) (⟨#[]⟩ : ByteArray) 0))
def legatelaw03_HmacSums.l0 : Nat → ByteArray → ByteArray → Bool → ByteArray → ByteArray → ByteArray → Int → Option (Bool)
  | 0, _, _, _, _, _, _, _ => none
  | k + 1, x0, x1, x5, x6, x7, x8, x9 => if x9 < (x6.size : Int) then (if 0 ≤ x9 then ((some (([Go.bits .xor .u8 (bt x6 x9) 54] : List Int) : List Int)).bind fun y316 => (if x7.size + (strOfNums y316).size ≤ 9223372036854775807 then ((some (([Go.bits .xor .u8 (bt x6 x9) 92] : List Int) : List Int)).bind fun y319 => (if x8.size + (strOfNums y319).size ≤ 9223372036854775807 then (legatelaw03_HmacSums.l0 k x0 x1 x5 x6 (x7 ++ (strOfNums y316)) (x8 ++ (strOfNums y319)) (wrap64 (x9 + 1))) else (none))) else (none))) else (none)) else (if x5 = true then (if (x6.size : Int) = 64 then ((hmac_Mac.f x0 x1).bind fun t322 => (if x7.size + x1.size ≤ 9223372036854775807 then ((sha_Sum.f (x7 ++ x1)).bind fun t323 => (if x8.size + t323.size ≤ 9223372036854775807 then ((sha_Sum.f (x8 ++ t323)).bind fun t324 => (some (t322.toList == t324.toList))) else (none))) else (none))) else (some false)) else (some false))
end
def legatelaw03_HmacSums.f (k : Nat) (a0 : ByteArray) (a1 : ByteArray) : Option (Bool) := (legatelaw03_works.f k).bind fun t314 => (if t314 = true then (if (a0.size : Int) > 1000 then (legatelaw03_HmacSums.j0 k a0 a1 t314 true) else (legatelaw03_HmacSums.j0 k a0 a1 t314 (decide ((a1.size : Int) > 1000)))) else (some false))
theorem legatelaw03_HmacSums.mono_l : ∀ k, (∀ y0 y1 y2 y3, LeO (legatelaw03_HmacSums.j0 k y0 y1 y2 y3) (legatelaw03_HmacSums.j0 (k + 1) y0 y1 y2 y3)) ∧ (∀ y0 y1 y2 y3 y4 y5 y6, LeO (legatelaw03_HmacSums.l0 k y0 y1 y2 y3 y4 y5 y6) (legatelaw03_HmacSums.l0 (k + 1) y0 y1 y2 y3 y4 y5 y6))
  | 0 => ⟨fun _ _ _ _ r h => by simp [legatelaw03_HmacSums.j0] at h, fun _ _ _ _ _ _ _ r h => by simp [legatelaw03_HmacSums.l0] at h⟩
  | k + 1 => by
    obtain ⟨ih0, ih1⟩ := legatelaw03_HmacSums.mono_l k
    refine ⟨?_, ?_⟩
    · intro y0 y1 y2 y3
      unfold legatelaw03_HmacSums.j0
      repeat' first
      | (with_reducible exact ih0 _ _ _ _)
      | (with_reducible exact ih1 _ _ _ _ _ _ _)
      | (with_reducible exact legatelaw03_works.mono _)
      | (with_reducible exact LeO.refl _)
      | (with_reducible exact LeO.none _)
      | (with_reducible refine LeO.ite ?_ ?_)
      | (with_reducible refine LeO.bind ?_ (fun _ => ?_))
      | exact ih0 _ _ _ _
      | exact ih1 _ _ _ _ _ _ _
      | exact legatelaw03_works.mono _
      | exact LeO.none _
      | refine LeO.ite ?_ ?_
      | refine LeO.bind ?_ (fun _ => ?_)
    · intro y0 y1 y2 y3 y4 y5 y6
      unfold legatelaw03_HmacSums.l0
      repeat' first
      | (with_reducible exact ih0 _ _ _ _)
      | (with_reducible exact ih1 _ _ _ _ _ _ _)
      | (with_reducible exact legatelaw03_works.mono _)
      | (with_reducible exact LeO.refl _)
      | (with_reducible exact LeO.none _)
      | (with_reducible refine LeO.ite ?_ ?_)
      | (with_reducible refine LeO.bind ?_ (fun _ => ?_))
      | exact ih0 _ _ _ _
      | exact ih1 _ _ _ _ _ _ _
      | exact legatelaw03_works.mono _
      | exact LeO.none _
      | refine LeO.ite ?_ ?_
      | refine LeO.bind ?_ (fun _ => ?_)
theorem legatelaw03_HmacSums.mono : ∀ a0 a1 k, LeO (legatelaw03_HmacSums.f k a0 a1) (legatelaw03_HmacSums.f (k + 1) a0 a1) := by
  intro a0 a1 k
  obtain ⟨ih0, ih1⟩ := legatelaw03_HmacSums.mono_l k
  unfold legatelaw03_HmacSums.f
  repeat' first
      | (with_reducible exact ih0 _ _ _ _)
      | (with_reducible exact ih1 _ _ _ _ _ _ _)
      | (with_reducible exact legatelaw03_works.mono _)
      | (with_reducible exact LeO.refl _)
      | (with_reducible exact LeO.none _)
      | (with_reducible refine LeO.ite ?_ ?_)
      | (with_reducible refine LeO.bind ?_ (fun _ => ?_))
      | exact ih0 _ _ _ _
      | exact ih1 _ _ _ _ _ _ _
      | exact legatelaw03_works.mono _
      | exact LeO.none _
      | refine LeO.ite ?_ ?_
      | refine LeO.bind ?_ (fun _ => ?_)
set_option maxHeartbeats 8000000 in
set_option maxRecDepth 100000 in
theorem legatelaw03_HmacSums.calls (k : Nat) (a0 : ByteArray) (a1 : ByteArray) (r : Bool) (w : World) {gw : GW w} (h : legatelaw03_HmacSums.f k a0 a1 = some r) :
    Calls Tryd.prog 13 #[.string a0, .string a1] w fun e w' => e = .returned (.bool r) ∧ Below w.heap.size w w' := by
  have HG := Aside0.mk gw
  clear gw
  have HB := Aside0.mk (Below.refl w.heap.size w)
  have H : ((legatelaw03_works.f k).bind fun t314 => (if t314 = true then (if (a0.size : Int) > 1000 then (legatelaw03_HmacSums.j0 k a0 a1 t314 true) else (legatelaw03_HmacSums.j0 k a0 a1 t314 (decide ((a1.size : Int) > 1000)))) else (some false))) = some r := h
  clear h
  replace H := Option.bind_eq_some_iff.mp H
  obtain ⟨t314, A30, H⟩ := H
  replace H : (if t314 = true then (if (a0.size : Int) > 1000 then (legatelaw03_HmacSums.j0 k a0 a1 t314 true) else (legatelaw03_HmacSums.j0 k a0 a1 t314 (decide ((a1.size : Int) > 1000)))) else (some false)) = some r := H
  have A3 := Aside0.mk A30
  clear A30
  by_cases c4 : t314 = true
  · subst c4
    have H1 : (if (a0.size : Int) > 1000 then (legatelaw03_HmacSums.j0 k a0 a1 true true) else (legatelaw03_HmacSums.j0 k a0 a1 true (decide ((a1.size : Int) > 1000)))) = some r := by rw [if_pos rfl] at H; exact H
    clear H
    have H := H1
    clear H1
    have HC5 := Aside0.mk H
    clear H
    go_enter Tryd.func13, Tryd.ntmps13
    go_upto_region 4 with (first | ((with_reducible refine gate_callee (f := 34) rfl ?_); refine goesL_ (some 10) rfl rfl Tryd.func34 (by kernel_rfl) rfl #[] rfl (by (try simp only [List.map_toArray, List.map_cons, List.map_nil]); first | done | rfl | (simp only [List.length_drop, List.length_take]; rfl)) ?_; (with_reducible refine (legatelaw03_works.calls (gw := ?sideG) k  true _ A3.out).mono ?_); (case sideG => exact GW.below HG.out (by repeat (first | (with_reducible first | exact HB.out | apply below_alloc | apply pw_below_drewN | apply below_drew1) | exact HB.out))); rintro e w6 ⟨rfl, hb⟩; refine ⟨_, rfl, ?_⟩; have n0_ := Aside0.mk (below_step (by repeat (first | (with_reducible first | exact HB.out | apply below_alloc | apply pw_below_drewN | apply below_drew1) | exact HB.out)) hb); clear HB; have HB := n0_; clear n0_; (try clear hb); (try clear hb2); (try clear hk); (try clear hi)))
    (try simp only [Act.put, List.setIfInBounds_toArray, List.set_cons_zero, List.set_cons_succ])
    go_cut [20] (fun v20 wc => ∃ (kq : Nat) (x20_4 : Bool), v20 = .bool x20_4 ∧ Aside0 (legatelaw03_HmacSums.j0 kq a0 a1 true x20_4 = some r) ∧ Aside0 (kq ≤ k) ∧ Aside0 (Below w.heap.size w wc))
    case first =>
      have H := HC5.out
      clear HC5
      by_cases c7 : (a0.size : Int) > 1000
      · rw [if_pos c7] at H
        have c7b0 : decide (1000 < (a0.size : Int)) = true := decide_eq_true c7
        have c7b1 : decide (1000 < a0.size) = true := decide_eq_true (by omega)
        clear c7
        (first | rw [c7b0] | (simp only [i64_w, i32_w]; rw [c7b0]) | skip)
        have H' := Aside0.mk H
        clear H
        go_wp2
        go_meet
        case rel => exact ⟨_, (true), (by first | rfl | (simp; done) | (simp [*]; done)), H', ⟨by first | omega | exact Nat.le_refl _⟩, ⟨by repeat (first | (with_reducible first | exact HB.out | apply below_alloc | apply pw_below_drewN | apply below_drew1) | exact HB.out)⟩⟩
      · rw [if_neg c7] at H
        have c7b0 : decide (1000 < (a0.size : Int)) = false := decide_eq_false c7
        have c7b1 : decide (1000 < a0.size) = false := decide_eq_false (by omega)
        clear c7
        (first | rw [c7b0] | (simp only [i64_w, i32_w]; rw [c7b0]) | skip)
        have H' := Aside0.mk H
        clear H
        go_wp2
        go_meet
        case rel => exact ⟨_, (decide ((a1.size : Int) > 1000)), (by first | rfl | (simp; done) | (simp [*]; done)), H', ⟨by first | omega | exact Nat.le_refl _⟩, ⟨by repeat (first | (with_reducible first | exact HB.out | apply below_alloc | apply pw_below_drewN | apply below_drew1) | exact HB.out)⟩⟩
    case rest =>
      clear HC5
      try clear c1
      try clear p2
      try clear c3
      try clear c4
      try clear c7
      try clear c7b0
      try clear c7b1
      obtain ⟨kq, x20_4, rfl, HA, HJ4, HB⟩ := hcut
      cases kq with
      | zero => exact absurd HA.out (by simp [legatelaw03_HmacSums.j0])
      | succ kj4 =>
        have H := HA.out
        clear HA
        simp only [legatelaw03_HmacSums.j0] at H
        by_cases c8 : x20_4 = true
        · subst c8
          have H1 : (some true) = some r := by rw [if_pos rfl] at H; exact H
          clear H
          have H := H1
          clear H1
          obtain rfl := Option.some.inj H
          go_wp2
          go_ret
          exact ⟨by first | rfl | (simp [errW_none, errW_some] <;> rfl) | (simp [*, errW_none, errW_some] <;> rfl), by repeat (first | (with_reducible first | exact HB.out | apply below_alloc | apply pw_below_drewN | apply below_drew1) | exact HB.out)⟩
        · replace c8 := Bool.eq_false_iff.mpr c8
          subst c8
          have H1 : ((hmac_Key.f a0).bind fun t315 => (legatelaw03_HmacSums.l0 kj4 a0 a1 true t315 (⟨#[]⟩ : ByteArray) (⟨#[]⟩ : ByteArray) 0)) = some r := by rw [if_neg (show ¬ (false = true) by decide)] at H; exact H
          clear H
          have H := H1
          clear H1
          replace H := Option.bind_eq_some_iff.mp H
          obtain ⟨t315, A90, H⟩ := H
          replace H : (legatelaw03_HmacSums.l0 kj4 a0 a1 true t315 (⟨#[]⟩ : ByteArray) (⟨#[]⟩ : ByteArray) 0) = some r := H
          have A9 := Aside0.mk A90
          clear A90
          have H' := Aside0.mk H
          clear H
          go_wp2_with (first | ((with_reducible refine gate_callee (f := 37) rfl ?_); refine goesL_ (some 23) rfl rfl Tryd.func37 (by kernel_rfl) rfl #[.string a0] rfl (by (try simp only [List.map_toArray, List.map_cons, List.map_nil]); first | done | rfl | (simp only [List.length_drop, List.length_take]; rfl)) ?_; (with_reducible refine (hmac_Key.calls (gw := ?sideG) a0 t315 _ A9.out).mono ?_); (case sideG => exact GW.below HG.out (by repeat (first | (with_reducible first | exact HB.out | apply below_alloc | apply pw_below_drewN | apply below_drew1) | exact HB.out))); rintro e w10 ⟨rfl, hb⟩; refine ⟨_, rfl, ?_⟩; have n0_ := Aside0.mk (below_step (by repeat (first | (with_reducible first | exact HB.out | apply below_alloc | apply pw_below_drewN | apply below_drew1) | exact HB.out)) hb); clear HB; have HB := n0_; clear n0_; (try clear hb); (try clear hb2); (try clear hk); (try clear hi)))
          go_loopg [7, 8, 9] kj4 (fun kq v7 v8 v9 w' => ∃ (x7_2 : ByteArray) (x8_2 : ByteArray) (x9_2 : Int), v7 = .string x7_2 ∧ v8 = .string x8_2 ∧ v9 = .int .i64 x9_2 ∧ Aside0 (legatelaw03_HmacSums.l0 kq a0 a1 true t315 x7_2 x8_2 x9_2 = some r) ∧ Aside0 (kq ≤ kj4) ∧ Aside0 (Below w.heap.size w w'))
          case atStart => exact ⟨((⟨#[]⟩ : ByteArray)), ((⟨#[]⟩ : ByteArray)), (0), (by first | rfl | (simp; done) | (simp [*]; done)), (by first | rfl | (simp; done) | (simp [*]; done)), (by first | rfl | (simp; done) | (simp [*]; done)), H', ⟨Nat.le_refl _⟩, ⟨by repeat (first | (with_reducible first | exact HB.out | apply below_alloc | apply pw_below_drewN | apply below_drew1) | exact HB.out)⟩⟩
          case round =>
            clear H'
            try clear c1
            try clear p2
            try clear c3
            try clear c4
            try clear c7
            try clear c7b0
            try clear c7b1
            try clear c8
            try clear p2
            obtain ⟨x7_2, x8_2, x9_2, rfl, rfl, rfl, HA, HK2, HB⟩ := hrel
            cases gk with
            | zero => exact absurd HA.out (by simp [legatelaw03_HmacSums.l0])
            | succ k2 =>
              have H := HA.out
              clear HA
              simp only [legatelaw03_HmacSums.l0] at H
              by_cases c11 : x9_2 < (t315.size : Int)
              · rw [if_pos c11] at H
                have c11b0 : decide (x9_2 < (t315.size : Int)) = true := decide_eq_true c11
                clear c11
                by_cases c12 : 0 ≤ x9_2
                · rw [if_pos c12] at H
                  have c12b0 : decide (0 ≤ x9_2) = true := decide_eq_true c12
                  clear c12
                  obtain ⟨y316, hy316⟩ : ∃ y_ : List Int, y_ = (([Go.bits .xor .u8 (bt t315 x9_2) 54] : List Int)) := ⟨_, rfl⟩
                  replace H : (if x7_2.size + (strOfNums y316).size ≤ 9223372036854775807 then ((some (([Go.bits .xor .u8 (bt t315 x9_2) 92] : List Int) : List Int)).bind fun y319 => (if x8_2.size + (strOfNums y319).size ≤ 9223372036854775807 then (legatelaw03_HmacSums.l0 k2 a0 a1 true t315 (x7_2 ++ (strOfNums y316)) (x8_2 ++ (strOfNums y319)) (wrap64 (x9_2 + 1))) else (none))) else (none)) = some r := by first | (rw [hy316]; with_reducible exact H) | (have H2_ := (Option.bind_some _ _).symm.trans H; rw [hy316]; with_reducible exact H2_) | (have H2_ := (Option.bind_some _ _).symm.trans H; with_reducible exact H2_) | with_reducible exact H | (rw [hy316]; exact H) | exact H
                  have Ny316 := Aside0.mk hy316
                  clear hy316
                  by_cases c14 : x7_2.size + (strOfNums y316).size ≤ 9223372036854775807
                  · rw [if_pos c14] at H
                    have c14b0 := eq_true c14
                    have c14b0z := c14b0
                    (try simp only [ByteArray.size_append, Int.natCast_add, show (⟨#[]⟩ : ByteArray).size = 0 from rfl] at c14b0z)
                    have c14b1 : decide (x7_2.size + (strOfNums y316).size ≤ 9223372036854775807) = true := decide_eq_true c14
                    have c14b1z := c14b1
                    (try simp only [ByteArray.size_append, Int.natCast_add, show (⟨#[]⟩ : ByteArray).size = 0 from rfl] at c14b1z)
                    try have c14b2 : (9223372036854775807 < x7_2.size + (strOfNums y316).size) = False := eq_false (Nat.not_lt.2 c14)
                    obtain ⟨y319, hy319⟩ : ∃ y_ : List Int, y_ = (([Go.bits .xor .u8 (bt t315 x9_2) 92] : List Int)) := ⟨_, rfl⟩
                    replace H : (if x8_2.size + (strOfNums y319).size ≤ 9223372036854775807 then (legatelaw03_HmacSums.l0 k2 a0 a1 true t315 (x7_2 ++ (strOfNums y316)) (x8_2 ++ (strOfNums y319)) (wrap64 (x9_2 + 1))) else (none)) = some r := by first | (rw [hy319]; with_reducible exact H) | (have H2_ := (Option.bind_some _ _).symm.trans H; rw [hy319]; with_reducible exact H2_) | (have H2_ := (Option.bind_some _ _).symm.trans H; with_reducible exact H2_) | with_reducible exact H | (rw [hy319]; exact H) | exact H
                    have Ny319 := Aside0.mk hy319
                    clear hy319
                    by_cases c16 : x8_2.size + (strOfNums y319).size ≤ 9223372036854775807
                    · rw [if_pos c16] at H
                      have c16b0 := eq_true c16
                      have c16b0z := c16b0
                      (try simp only [ByteArray.size_append, Int.natCast_add] at c16b0z)
                      have c16b1 : decide (x8_2.size + (strOfNums y319).size ≤ 9223372036854775807) = true := decide_eq_true c16
                      have c16b1z := c16b1
                      (try simp only [ByteArray.size_append, Int.natCast_add] at c16b1z)
                      try have c16b2 : (9223372036854775807 < x8_2.size + (strOfNums y319).size) = False := eq_false (Nat.not_lt.2 c16)
                      have H' := Aside0.mk H
                      clear H
                      have p13 : 0 ≤ (x9_2 : Int) := of_decide_eq_true (by first | (with_reducible assumption) | assumption)
                      have q13 : x9_2 < (t315.size : Int) := of_decide_eq_true (by first | (with_reducible assumption) | assumption)
                      have hx13 := bt_at t315 x9_2
                      replace p13 := eq_true p13
                      replace q13 := eq_true q13
                      go_wp2_with (first | ((with_reducible refine gate_dst (N := 35) rfl ?_); (try (refine gate_guard (by rfl) ?_; dsimp only)); refine Kd.R_lit (Kd.int .u8) _ 5 ?hg (N := 35) ?hd (xs := ([Go.bits .xor .u8 (bt t315 x9_2) 54] : List Int)) (inner := [.int .u8 (Go.bits .xor .u8 (bt t315 x9_2) 54)]) (ok := fun _ => True) (okp := fun _ => True) ?hr ?hp (fun _ hk => hk) trivial (Below.refl _ _) (Nat.le_refl _) (by simp) ?_; (case hd => rfl); (case hg => rfl); (case hr => first | (go_simp; done) | (go_simp; rfl)); (case hp => exact (Reps.one (show Kd.M (Kd.int .u8) _ _ _ (Go.bits .xor .u8 (bt t315 x9_2) 54) [.int .u8 (Go.bits .xor .u8 (bt t315 x9_2) 54)] from rfl) (Reps.none _ _))); intro v317 w17 ho18 hb hg_ hnew_; clear hg_ hnew_; (first | rw [← Ny316.out] at ho18 | (simp only [Int.reduceToNat] at ho18; rw [← Ny316.out] at ho18)); have n0_ := Aside0.mk (Kd.R_lower ho18 (below_size (by repeat (first | (with_reducible first | exact HB.out | apply below_alloc | apply pw_below_drewN | apply below_drew1) | exact HB.out)))); have n1_ := Aside0.mk (below_step (by repeat (first | (with_reducible first | exact HB.out | apply below_alloc | apply pw_below_drewN | apply below_drew1) | exact HB.out)) hb); clear HB; have HO318 := n0_; have HB := n1_; clear n0_ n1_; clear hb ho18; have hcv19 := own_string (P := Tryd.prog) Tryd.underlying44 Tryd.underlying5 Tryd.underlying9 (Kd.own_of_R HO318.out); have p15 : 0 ≤ (x9_2 : Int) := of_decide_eq_true (by first | (with_reducible assumption) | assumption); have q15 : x9_2 < (t315.size : Int) := of_decide_eq_true (by first | (with_reducible assumption) | assumption); have hx15 := bt_at t315 x9_2; replace p15 := eq_true p15; replace q15 := eq_true q15) | ((with_reducible refine gate_dst (N := 43) rfl ?_); (try (refine gate_guard (by rfl) ?_; dsimp only)); refine Kd.R_lit (Kd.int .u8) _ 5 ?hg (N := 43) ?hd (xs := ([Go.bits .xor .u8 (bt t315 x9_2) 92] : List Int)) (inner := [.int .u8 (Go.bits .xor .u8 (bt t315 x9_2) 92)]) (ok := fun _ => True) (okp := fun _ => True) ?hr ?hp (fun _ hk => hk) trivial (Below.refl _ _) (Nat.le_refl _) (by simp) ?_; (case hd => rfl); (case hg => rfl); (case hr => first | (go_simp; done) | (go_simp; rfl)); (case hp => exact (Reps.one (show Kd.M (Kd.int .u8) _ _ _ (Go.bits .xor .u8 (bt t315 x9_2) 92) [.int .u8 (Go.bits .xor .u8 (bt t315 x9_2) 92)] from rfl) (Reps.none _ _))); intro v320 w20 ho21 hb hg_ hnew_; clear hg_ hnew_; (first | rw [← Ny319.out] at ho21 | (simp only [Int.reduceToNat] at ho21; rw [← Ny319.out] at ho21)); have n0_ := Aside0.mk (Kd.R_elder' (by (with_reducible repeat (first | apply Kd.R_alloc | apply Kd.R_drewN | apply Kd.R_drew)); exact HO318.out) (Kd.R_base ho21) hb); have n1_ := Aside0.mk (Kd.R_lower (Kd.R_new' ho21 (Kd.R_lt (by (with_reducible repeat (first | apply Kd.R_alloc | apply Kd.R_drewN | apply Kd.R_drew)); exact HO318.out))) (below_size (by repeat (first | (with_reducible first | exact HB.out | apply below_alloc | apply pw_below_drewN | apply below_drew1) | exact HB.out)))); have n2_ := Aside0.mk (below_step (by repeat (first | (with_reducible first | exact HB.out | apply below_alloc | apply pw_below_drewN | apply below_drew1) | exact HB.out)) hb); clear HO318; clear HB; have HO318 := n0_; have HO321 := n1_; have HB := n2_; clear n0_ n1_ n2_; clear hb ho21; have hcv22 := own_string (P := Tryd.prog) Tryd.underlying44 Tryd.underlying5 Tryd.underlying9 (Kd.own_of_R HO321.out)))
                      go_roundg k2
                      case measure => have := HJ4.out; have := HK2.out; omega
                      case rel => exact ⟨(x7_2 ++ (strOfNums y316)), (x8_2 ++ (strOfNums y319)), (wrap64 (x9_2 + 1)), (by first | rfl | (simp; done) | (simp [*]; done)), (by first | rfl | (simp; done) | (simp [*]; done)), (by first | rfl | (simp; done) | (simp [*]; done)), H', ⟨by have := HJ4.out; have := HK2.out; omega⟩, ⟨by repeat (first | (with_reducible first | exact HB.out | apply below_alloc | apply pw_below_drewN | apply below_drew1) | exact HB.out)⟩⟩
                    · rw [if_neg c16] at H
                      exact absurd H (by simp)
                  · rw [if_neg c14] at H
                    exact absurd H (by simp)
                · rw [if_neg c12] at H
                  exact absurd H (by simp)
              · rw [if_neg c11] at H
                have c11b0 : decide (x9_2 < (t315.size : Int)) = false := decide_eq_false c11
                clear c11
                by_cases c23 : true = true
                · clear c23
                  have H1 : (if (t315.size : Int) = 64 then ((hmac_Mac.f a0 a1).bind fun t322 => (if x7_2.size + a1.size ≤ 9223372036854775807 then ((sha_Sum.f (x7_2 ++ a1)).bind fun t323 => (if x8_2.size + t323.size ≤ 9223372036854775807 then ((sha_Sum.f (x8_2 ++ t323)).bind fun t324 => (some (t322.toList == t324.toList))) else (none))) else (none))) else (some false)) = some r := by first | (rw [if_pos rfl] at H; exact H) | (rw [if_pos trivial] at H; exact H) | simpa using H
                  clear H
                  have H := H1
                  clear H1
                  by_cases c24 : (t315.size : Int) = 64
                  · rw [if_pos c24] at H
                    have c24b0 : ((t315.size : Int) == 64) = true := beq_iff_eq.mpr c24
                    have c24b1 : ((t315.size : Int) != 64) = false := bne_eq_false_iff_eq.mpr c24
                    clear c24
                    replace H := Option.bind_eq_some_iff.mp H
                    obtain ⟨t322, A250, H⟩ := H
                    replace H : (if x7_2.size + a1.size ≤ 9223372036854775807 then ((sha_Sum.f (x7_2 ++ a1)).bind fun t323 => (if x8_2.size + t323.size ≤ 9223372036854775807 then ((sha_Sum.f (x8_2 ++ t323)).bind fun t324 => (some (t322.toList == t324.toList))) else (none))) else (none)) = some r := H
                    have A25 := Aside0.mk A250
                    clear A250
                    by_cases c26 : x7_2.size + a1.size ≤ 9223372036854775807
                    · rw [if_pos c26] at H
                      have c26b0 := eq_true c26
                      have c26b0z := c26b0
                      (try simp only [ByteArray.size_append, Int.natCast_add] at c26b0z)
                      have c26b1 : decide (x7_2.size + a1.size ≤ 9223372036854775807) = true := decide_eq_true c26
                      have c26b1z := c26b1
                      (try simp only [ByteArray.size_append, Int.natCast_add] at c26b1z)
                      try have c26b2 : (9223372036854775807 < x7_2.size + a1.size) = False := eq_false (Nat.not_lt.2 c26)
                      replace H := Option.bind_eq_some_iff.mp H
                      obtain ⟨t323, A270, H⟩ := H
                      replace H : (if x8_2.size + t323.size ≤ 9223372036854775807 then ((sha_Sum.f (x8_2 ++ t323)).bind fun t324 => (some (t322.toList == t324.toList))) else (none)) = some r := H
                      have A27 := Aside0.mk A270
                      clear A270
                      by_cases c28 : x8_2.size + t323.size ≤ 9223372036854775807
                      · rw [if_pos c28] at H
                        have c28b0 := eq_true c28
                        have c28b0z := c28b0
                        (try simp only [ByteArray.size_append, Int.natCast_add] at c28b0z)
                        have c28b1 : decide (x8_2.size + t323.size ≤ 9223372036854775807) = true := decide_eq_true c28
                        have c28b1z := c28b1
                        (try simp only [ByteArray.size_append, Int.natCast_add] at c28b1z)
                        try have c28b2 : (9223372036854775807 < x8_2.size + t323.size) = False := eq_false (Nat.not_lt.2 c28)
                        replace H := Option.bind_eq_some_iff.mp H
                        obtain ⟨t324, A290, H⟩ := H
                        replace H : (some (t322.toList == t324.toList)) = some r := H
                        have A29 := Aside0.mk A290
                        clear A290
                        obtain rfl := Option.some.inj H
                        go_wp2_with (first | (go_at_call 31; (with_reducible refine (hmac_Mac.calls (gw := ?sideG) a0 a1 t322 _ A25.out).mono ?_); (case sideG => exact GW.below HG.out (by repeat (first | (with_reducible first | exact HB.out | apply below_alloc | apply pw_below_drewN | apply below_drew1) | exact HB.out))); rintro e w30 ⟨rfl, hb⟩; have n0_ := Aside0.mk (below_step (by repeat (first | (with_reducible first | exact HB.out | apply below_alloc | apply pw_below_drewN | apply below_drew1) | exact HB.out)) hb); clear HB; have HB := n0_; clear n0_; (try clear hb); (try clear hb2); (try clear hk); (try clear hi)) | (go_at_call 20; (with_reducible refine (sha_Sum.calls (gw := ?sideG) (x7_2 ++ a1) t323 _ A27.out).mono ?_); (case sideG => exact GW.below HG.out (by repeat (first | (with_reducible first | exact HB.out | apply below_alloc | apply pw_below_drewN | apply below_drew1) | exact HB.out))); rintro e w31 ⟨rfl, hb⟩; have n0_ := Aside0.mk (below_step (by repeat (first | (with_reducible first | exact HB.out | apply below_alloc | apply pw_below_drewN | apply below_drew1) | exact HB.out)) hb); clear HB; have HB := n0_; clear n0_; (try clear hb); (try clear hb2); (try clear hk); (try clear hi)) | (go_at_call 20; (with_reducible refine (sha_Sum.calls (gw := ?sideG) (x8_2 ++ t323) t324 _ A29.out).mono ?_); (case sideG => exact GW.below HG.out (by repeat (first | (with_reducible first | exact HB.out | apply below_alloc | apply pw_below_drewN | apply below_drew1) | exact HB.out))); rintro e w32 ⟨rfl, hb⟩; have n0_ := Aside0.mk (below_step (by repeat (first | (with_reducible first | exact HB.out | apply below_alloc | apply pw_below_drewN | apply below_drew1) | exact HB.out)) hb); clear HB; have HB := n0_; clear n0_; (try clear hb); (try clear hb2); (try clear hk); (try clear hi)))
                        go_ret
                        exact ⟨by first | rfl | (simp [errW_none, errW_some] <;> rfl) | (simp [*, errW_none, errW_some] <;> rfl), by repeat (first | (with_reducible first | exact HB.out | apply below_alloc | apply pw_below_drewN | apply below_drew1) | exact HB.out)⟩
                      · rw [if_neg c28] at H
                        exact absurd H (by simp)
                    · rw [if_neg c26] at H
                      exact absurd H (by simp)
                  · rw [if_neg c24] at H
                    have c24b0 : ((t315.size : Int) == 64) = false := beq_eq_false_iff_ne.mpr c24
                    have c24b1 : ((t315.size : Int) != 64) = true := bne_iff_ne.mpr c24
                    obtain rfl := Option.some.inj H
                    go_wp2
                    go_ret
                    exact ⟨by first | rfl | (simp [errW_none, errW_some] <;> rfl) | (simp [*, errW_none, errW_some] <;> rfl), by repeat (first | (with_reducible first | exact HB.out | apply below_alloc | apply pw_below_drewN | apply below_drew1) | exact HB.out)⟩
                · exact absurd rfl c23
  · replace c4 := Bool.eq_false_iff.mpr c4
    subst c4
    have H1 : (some false) = some r := by rw [if_neg (show ¬ (false = true) by decide)] at H; exact H
    clear H
    have H := H1
    clear H1
    obtain rfl := Option.some.inj H
    go_enter Tryd.func13, Tryd.ntmps13
    go_wp2_with (first | ((with_reducible refine gate_callee (f := 34) rfl ?_); refine goesL_ (some 10) rfl rfl Tryd.func34 (by kernel_rfl) rfl #[] rfl (by (try simp only [List.map_toArray, List.map_cons, List.map_nil]); first | done | rfl | (simp only [List.length_drop, List.length_take]; rfl)) ?_; (with_reducible refine (legatelaw03_works.calls (gw := ?sideG) k  false _ A3.out).mono ?_); (case sideG => exact GW.below HG.out (by repeat (first | (with_reducible first | exact HB.out | apply below_alloc | apply pw_below_drewN | apply below_drew1) | exact HB.out))); rintro e w33 ⟨rfl, hb⟩; refine ⟨_, rfl, ?_⟩; have n0_ := Aside0.mk (below_step (by repeat (first | (with_reducible first | exact HB.out | apply below_alloc | apply pw_below_drewN | apply below_drew1) | exact HB.out)) hb); clear HB; have HB := n0_; clear n0_; (try clear hb); (try clear hb2); (try clear hk); (try clear hi)))
    go_ret
    exact ⟨by first | rfl | (simp [errW_none, errW_some] <;> rfl) | (simp [*, errW_none, errW_some] <;> rfl), by repeat (first | (with_reducible first | exact HB.out | apply below_alloc | apply pw_below_drewN | apply below_drew1) | exact HB.out)⟩

/-- THE ONE PURE STATEMENT of legatelaw03_HmacSums: yours. -/
def legatelaw03_HmacSums.Pure : Prop := ∀ (a0 : ByteArray) (a1 : ByteArray), a0.size ≤ 140737488351232 → a1.size ≤ 140737488351232 → ∃ k, legatelaw03_HmacSums.f k a0 a1 = some true
theorem legatelaw03_HmacSums.walk (P : legatelaw03_HmacSums.Pure) (a0 : ByteArray) (a1 : ByteArray) (w : World) (w0 : a0.size ≤ 140737488351232) (w1 : a1.size ≤ 140737488351232) {gw : GW w} :
    Calls Tryd.prog 13 #[.string a0, .string a1] w fun e w' => e = .returned (.bool true) ∧ Below w.heap.size w w' := by
  obtain ⟨k, h⟩ := P a0 a1 w0 w1
  refine (legatelaw03_HmacSums.calls (gw := gw) k a0 a1 true w h).mono ?_
  rintro e w' ⟨rfl, hd⟩
  exact ⟨rfl, hd⟩


/-! ### derive_Key: function 41 -/
def derive_Key.f (a0 : ByteArray) (a1 : Int) (a2 : ByteArray) : Option (ByteArray) := (derive_text.f a2 (⟨#[]⟩ : ByteArray) (([a1] : List Int))).bind fun t328 => ((hmac_Mac.f a0 t328).bind fun t329 => (some t329))
set_option maxHeartbeats 8000000 in
set_option maxRecDepth 100000 in
theorem derive_Key.calls (a0 : ByteArray) (a1 : Int) (a2 : ByteArray) (r : ByteArray) (w : World) {gw : GW w} (h : derive_Key.f a0 a1 a2 = some r) :
    Calls Tryd.prog 41 #[.string a0, .int .i64 a1, .string a2] w fun e w' => e = .returned (.string r) ∧ Below w.heap.size w w' := by
  have HG := Aside0.mk gw
  clear gw
  have HB := Aside0.mk (Below.refl w.heap.size w)
  have H : ((derive_text.f a2 (⟨#[]⟩ : ByteArray) (([a1] : List Int))).bind fun t328 => ((hmac_Mac.f a0 t328).bind fun t329 => (some t329))) = some r := h
  clear h
  obtain ⟨y325, hy325⟩ : ∃ y_ : List Int, y_ = (([a1] : List Int)) := ⟨_, rfl⟩
  replace H : ((derive_text.f a2 (⟨#[]⟩ : ByteArray) y325).bind fun t328 => ((hmac_Mac.f a0 t328).bind fun t329 => (some t329))) = some r := by first | (rw [hy325]; with_reducible exact H) | (have H2_ := (Option.bind_some _ _).symm.trans H; rw [hy325]; with_reducible exact H2_) | (have H2_ := (Option.bind_some _ _).symm.trans H; with_reducible exact H2_) | with_reducible exact H | (rw [hy325]; exact H) | exact H
  have Ny325 := Aside0.mk hy325
  clear hy325
  replace H := Option.bind_eq_some_iff.mp H
  obtain ⟨t328, A40, H⟩ := H
  replace H : ((hmac_Mac.f a0 t328).bind fun t329 => (some t329)) = some r := H
  have A4 := Aside0.mk A40
  clear A40
  replace H := Option.bind_eq_some_iff.mp H
  obtain ⟨t329, A50, H⟩ := H
  replace H : (some t329) = some r := H
  have A5 := Aside0.mk A50
  clear A50
  obtain rfl := Option.some.inj H
  go_enter Tryd.func41, Tryd.ntmps41
  go_wp2_with (first | ((with_reducible refine gate_dst (N := 10) rfl ?_); refine Kd.R_lit (Kd.int .i64) _ 3 ?hg (N := 10) ?hd (xs := ([a1] : List Int)) (inner := [.int .i64 a1]) (ok := fun _ => True) (okp := fun _ => True) ?hr ?hp (fun _ hk => hk) trivial (Below.refl _ _) (Nat.le_refl _) (by simp) ?_; (case hd => rfl); (case hg => rfl); (case hr => first | (go_simp; done) | (go_simp; rfl)); (case hp => exact (Reps.one (show Kd.M (Kd.int .i64) _ _ _ a1 [.int .i64 a1] from rfl) (Reps.none _ _))); intro v326 w6 ho7 hb hg_ hnew_; clear hg_ hnew_; (first | rw [← Ny325.out] at ho7 | (simp only [Int.reduceToNat] at ho7; rw [← Ny325.out] at ho7)); have n0_ := Aside0.mk (Kd.R_lower ho7 (below_size (by repeat (first | (with_reducible first | exact HB.out | apply below_alloc | apply pw_below_drewN | apply below_drew1) | exact HB.out)))); have n1_ := Aside0.mk (below_step (by repeat (first | (with_reducible first | exact HB.out | apply below_alloc | apply pw_below_drewN | apply below_drew1) | exact HB.out)) hb); clear HB; have HO327 := n0_; have HB := n1_; clear n0_ n1_; clear hb ho7; obtain ⟨Ao8, co8, eo8⟩ := Kd.R_slice HO327.out; subst eo8) | ((with_reducible refine gate_callee (f := 71) rfl ?_); refine goesL_ (some 11) rfl rfl Tryd.func71 (by kernel_rfl) rfl #[.string a2, .string (⟨#[]⟩ : ByteArray), .slice Ao8 y325.length co8] rfl (by (try simp only [List.map_toArray, List.map_cons, List.map_nil]); first | done | rfl | (simp only [List.length_drop, List.length_take]; rfl)) ?_; (with_reducible refine (derive_text.calls a2 (⟨#[]⟩ : ByteArray) _ _ y325 t328 _ ?side1 ?side2 A4.out).mono ?_); (case side1 => repeat (first | exact (Kd.R_reads' HO327.out).2.2 | (with_reducible refine Kd.C_alloc ?_ _) | (with_reducible refine Kd.C_drewN ?_ _) | (with_reducible refine Kd.C_drew ?_))); (case side2 => exact (Kd.R_reads' HO327.out).2.1); rintro e w9 ⟨rfl, hb⟩; refine ⟨_, rfl, ?_⟩; have n0_ := Aside0.mk (Kd.R_below (by (with_reducible repeat (first | apply Kd.R_alloc | apply Kd.R_drewN | apply Kd.R_drew)); exact HO327.out) hb); have n1_ := Aside0.mk (below_step (by repeat (first | (with_reducible first | exact HB.out | apply below_alloc | apply pw_below_drewN | apply below_drew1) | exact HB.out)) hb); clear HO327; clear HB; have HO327 := n0_; have HB := n1_; clear n0_ n1_; (try clear hb); (try clear hb2); (try clear hk); (try clear hi)) | ((with_reducible refine gate_callee (f := 31) rfl ?_); refine goesL_ (some 12) rfl rfl Tryd.func31 (by kernel_rfl) rfl #[.string a0, .string t328] rfl (by (try simp only [List.map_toArray, List.map_cons, List.map_nil]); first | done | rfl | (simp only [List.length_drop, List.length_take]; rfl)) ?_; (with_reducible refine (hmac_Mac.calls (gw := ?sideG) a0 t328 t329 _ A5.out).mono ?_); (case sideG => exact GW.below HG.out (by repeat (first | (with_reducible first | exact HB.out | apply below_alloc | apply pw_below_drewN | apply below_drew1) | exact HB.out))); rintro e w10 ⟨rfl, hb⟩; refine ⟨_, rfl, ?_⟩; have n0_ := Aside0.mk (Kd.R_below (by (with_reducible repeat (first | apply Kd.R_alloc | apply Kd.R_drewN | apply Kd.R_drew)); exact HO327.out) hb); have n1_ := Aside0.mk (below_step (by repeat (first | (with_reducible first | exact HB.out | apply below_alloc | apply pw_below_drewN | apply below_drew1) | exact HB.out)) hb); clear HO327; clear HB; have HO327 := n0_; have HB := n1_; clear n0_ n1_; (try clear hb); (try clear hb2); (try clear hk); (try clear hi)))
  go_ret
  exact ⟨by first | rfl | (simp [errW_none, errW_some] <;> rfl) | (simp [*, errW_none, errW_some] <;> rfl), by repeat (first | (with_reducible first | exact HB.out | apply below_alloc | apply pw_below_drewN | apply below_drew1) | exact HB.out)⟩

/-! ### derive_Sum: function 32 -/
def derive_Sum.f (a0 : ByteArray) (a1 : Int) : Option (ByteArray) := (derive_Key.f a0 a1 (⟨#[115, 117, 109]⟩ : ByteArray)).bind fun t330 => (some t330)
set_option maxHeartbeats 8000000 in
set_option maxRecDepth 100000 in
theorem derive_Sum.calls (a0 : ByteArray) (a1 : Int) (r : ByteArray) (w : World) {gw : GW w} (h : derive_Sum.f a0 a1 = some r) :
    Calls Tryd.prog 32 #[.string a0, .int .i64 a1] w fun e w' => e = .returned (.string r) ∧ Below w.heap.size w w' := by
  have HG := Aside0.mk gw
  clear gw
  have HB := Aside0.mk (Below.refl w.heap.size w)
  have H : ((derive_Key.f a0 a1 (⟨#[115, 117, 109]⟩ : ByteArray)).bind fun t330 => (some t330)) = some r := h
  clear h
  replace H := Option.bind_eq_some_iff.mp H
  obtain ⟨t330, A30, H⟩ := H
  replace H : (some t330) = some r := H
  have A3 := Aside0.mk A30
  clear A30
  obtain rfl := Option.some.inj H
  go_enter Tryd.func32, Tryd.ntmps32
  go_wp2_with (first | ((with_reducible refine gate_callee (f := 41) rfl ?_); refine goesL_ (some 7) rfl rfl Tryd.func41 (by kernel_rfl) rfl #[.string a0, .int .i64 a1, .string (⟨#[115, 117, 109]⟩ : ByteArray)] rfl (by (try simp only [List.map_toArray, List.map_cons, List.map_nil]); first | done | rfl | (simp only [List.length_drop, List.length_take]; rfl)) ?_; (with_reducible refine (derive_Key.calls (gw := ?sideG) a0 a1 (⟨#[115, 117, 109]⟩ : ByteArray) t330 _ A3.out).mono ?_); (case sideG => exact GW.below HG.out (by repeat (first | (with_reducible first | exact HB.out | apply below_alloc | apply pw_below_drewN | apply below_drew1) | exact HB.out))); rintro e w4 ⟨rfl, hb⟩; refine ⟨_, rfl, ?_⟩; have n0_ := Aside0.mk (below_step (by repeat (first | (with_reducible first | exact HB.out | apply below_alloc | apply pw_below_drewN | apply below_drew1) | exact HB.out)) hb); clear HB; have HB := n0_; clear n0_; (try clear hb); (try clear hb2); (try clear hk); (try clear hi)))
  go_ret
  exact ⟨by first | rfl | (simp [errW_none, errW_some] <;> rfl) | (simp [*, errW_none, errW_some] <;> rfl), by repeat (first | (with_reducible first | exact HB.out | apply below_alloc | apply pw_below_drewN | apply below_drew1) | exact HB.out)⟩

end Go.Proofs.YtkgijkfcmbpgpaaDoor.PAll
