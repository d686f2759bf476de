-- written by wip/printx.py, a program of this session, over the kit's print
import Derived.Test.YtkgijkfcmbpgpaaGCtrWorks
import Derived.Test.YtkgijkfcmbpgpaaGCtr
import Derived.Test.YtkgijkfcmbpgpaaPAllx0
import Derived.Test.YtkgijkfcmbpgpaaPAllx6
namespace Go.Proofs.Ytkgijkfcmbpgpaa.PAll
open Go.RowKit Go.Proofs.YtkgijkfcmbpgpaaW.PrintWords Go.Proofs.YtkgijkfcmbpgpaaW.PrintLast Go.Proofs.YtkgijkfcmbpgpaaW.PrintMore
open Go.Proofs.Ytkgijkfcmbpgpaa.Giv
attribute [local go_sem] max2_int min2_int max_two min_two max_three min_three max_four min_four   -- for this text's walks alone
set_option linter.unusedVariables false
set_option linter.unusedSimpArgs false

/-! ### legatelaw05_CtrBegins: function 11 -/
def legatelaw05_CtrBegins.j0 : Nat → ByteArray → ByteArray → ByteArray → Int → Bool → Bool → Option (Bool)
  | 0, _, _, _, _, _, _ => none
  | k + 1, x0, x1, x2, x3, x9, x39 => if x39 = true then (some x9) else ((ctr_Stream.f x0 x1 x3).bind fun t229 => ((ctr_Stream.f x0 x1 (x2.size : Int)).bind fun t230 => ((ctr_Cipher.f k x0 x1 x2).bind fun t231 => (if 0 ≤ x3 then (if x3 ≤ (x2.size : Int) then ((ctr_Cipher.f k x0 x1 (x2.extract 0 (x3 : Int).toNat)).bind fun t232 => (if x9 = true then (if (t230.size : Int) = (x2.size : Int) then (if x3 ≤ (t230.size : Int) then (if t229.toList = (t230.extract 0 (x3 : Int).toNat).toList then (if (t231.size : Int) = (x2.size : Int) then (if x3 ≤ (t231.size : Int) then (some (t232.toList == (t231.extract 0 (x3 : Int).toNat).toList)) else (none)) else (some false)) else (some false)) else (none)) else (some false)) else (some false))) else (none)) else (none)))))
def legatelaw05_CtrBegins.f (k : Nat) (a0 : ByteArray) (a1 : ByteArray) (a2 : ByteArray) (a3 : Int) : Option (Bool) := (legatelaw05_works.f).bind fun t228 => (if t228 = true then (if (a2.size : Int) > 3000 then (legatelaw05_CtrBegins.j0 k a0 a1 a2 a3 t228 true) else (if a3 < 0 then (legatelaw05_CtrBegins.j0 k a0 a1 a2 a3 t228 true) else (if a3 > (a2.size : Int) then (legatelaw05_CtrBegins.j0 k a0 a1 a2 a3 t228 true) else (if (a0.size : Int) = 16 then (legatelaw05_CtrBegins.j0 k a0 a1 a2 a3 t228 ((a1.size : Int) != 12)) else (legatelaw05_CtrBegins.j0 k a0 a1 a2 a3 t228 true))))) else (some false))
set_option maxHeartbeats 8000000 in
set_option maxRecDepth 100000 in
theorem legatelaw05_CtrBegins.calls (k : Nat) (a0 : ByteArray) (a1 : ByteArray) (a2 : ByteArray) (a3 : Int) (r : Bool) (w : World) (h : legatelaw05_CtrBegins.f k a0 a1 a2 a3 = some r) :
    Calls Try.prog 11 #[.string a0, .string a1, .string a2, .int .i64 a3] w fun e w' => e = .returned (.bool r) ∧ Below w.heap.size w w' := by
  have HB := Aside0.mk (Below.refl w.heap.size w)
  have H : ((legatelaw05_works.f).bind fun t228 => (if t228 = true then (if (a2.size : Int) > 3000 then (legatelaw05_CtrBegins.j0 k a0 a1 a2 a3 t228 true) else (if a3 < 0 then (legatelaw05_CtrBegins.j0 k a0 a1 a2 a3 t228 true) else (if a3 > (a2.size : Int) then (legatelaw05_CtrBegins.j0 k a0 a1 a2 a3 t228 true) else (if (a0.size : Int) = 16 then (legatelaw05_CtrBegins.j0 k a0 a1 a2 a3 t228 ((a1.size : Int) != 12)) else (legatelaw05_CtrBegins.j0 k a0 a1 a2 a3 t228 true))))) else (some false))) = some r := h
  clear h
  replace H := Option.bind_eq_some_iff.mp H
  obtain ⟨t228, A50, H⟩ := H
  replace H : (if t228 = true then (if (a2.size : Int) > 3000 then (legatelaw05_CtrBegins.j0 k a0 a1 a2 a3 t228 true) else (if a3 < 0 then (legatelaw05_CtrBegins.j0 k a0 a1 a2 a3 t228 true) else (if a3 > (a2.size : Int) then (legatelaw05_CtrBegins.j0 k a0 a1 a2 a3 t228 true) else (if (a0.size : Int) = 16 then (legatelaw05_CtrBegins.j0 k a0 a1 a2 a3 t228 ((a1.size : Int) != 12)) else (legatelaw05_CtrBegins.j0 k a0 a1 a2 a3 t228 true))))) else (some false)) = some r := H
  have A5 := Aside0.mk A50
  clear A50
  by_cases c6 : t228 = true
  · subst c6
    have H1 : (if (a2.size : Int) > 3000 then (legatelaw05_CtrBegins.j0 k a0 a1 a2 a3 true true) else (if a3 < 0 then (legatelaw05_CtrBegins.j0 k a0 a1 a2 a3 true true) else (if a3 > (a2.size : Int) then (legatelaw05_CtrBegins.j0 k a0 a1 a2 a3 true true) else (if (a0.size : Int) = 16 then (legatelaw05_CtrBegins.j0 k a0 a1 a2 a3 true ((a1.size : Int) != 12)) else (legatelaw05_CtrBegins.j0 k a0 a1 a2 a3 true true))))) = some r := by rw [if_pos rfl] at H; exact H
    clear H
    have H := H1
    clear H1
    have HC7 := Aside0.mk H
    clear H
    go_enter Try.func11, Try.ntmps11
    go_upto_region 4 with (first | ((with_reducible refine gate_callee (f := 29) rfl ?_); refine goesL_ (some 14) rfl rfl Try.func29 (by kernel_rfl) rfl #[] rfl (by (try simp only [List.map_toArray, List.map_cons, List.map_nil]); first | done | rfl | (simp only [List.length_drop, List.length_take]; rfl)) ?_; (with_reducible refine (legatelaw05_works.calls  true _ A5.out).mono ?_); rintro e w8 ⟨rfl, hb⟩; refine ⟨_, rfl, ?_⟩; have n0_ := Aside0.mk (below_step (by repeat (first | (with_reducible first | exact HB.out | apply below_alloc | apply pw_below_drewN | apply below_drew1) | exact HB.out)) hb); clear HB; have HB := n0_; clear n0_; (try clear hb); (try clear hb2); (try clear hk); (try clear hi)))
    (try simp only [Act.put, List.setIfInBounds_toArray, List.set_cons_zero, List.set_cons_succ])
    go_cut [39] (fun v39 wc => ∃ (kq : Nat) (x39_6 : Bool), v39 = .bool x39_6 ∧ Aside0 (legatelaw05_CtrBegins.j0 kq a0 a1 a2 a3 true x39_6 = some r) ∧ Aside0 (kq ≤ k) ∧ Aside0 (Below w.heap.size w wc))
    case first =>
      have H := HC7.out
      clear HC7
      by_cases c9 : (a2.size : Int) > 3000
      · rw [if_pos c9] at H
        have c9b0 : decide (3000 < (a2.size : Int)) = true := decide_eq_true c9
        have c9b1 : decide (3000 < a2.size) = true := decide_eq_true (by omega)
        clear c9
        (first | rw [c9b0] | (simp only [i64_w, i32_w]; rw [c9b0]) | skip)
        have H' := Aside0.mk H
        clear H
        go_wp2
        go_meet
        case rel => exact ⟨_, (true), (by first | rfl | (simp; done) | (simp [*]; done)), H', ⟨by first | omega | exact Nat.le_refl _⟩, ⟨by repeat (first | (with_reducible first | exact HB.out | apply below_alloc | apply pw_below_drewN | apply below_drew1) | exact HB.out)⟩⟩
      · rw [if_neg c9] at H
        have c9b0 : decide (3000 < (a2.size : Int)) = false := decide_eq_false c9
        have c9b1 : decide (3000 < a2.size) = false := decide_eq_false (by omega)
        clear c9
        (first | rw [c9b0] | (simp only [i64_w, i32_w]; rw [c9b0]) | skip)
        by_cases c10 : a3 < 0
        · rw [if_pos c10] at H
          have c10b0 : decide (a3 < 0) = true := decide_eq_true c10
          clear c10
          have H' := Aside0.mk H
          clear H
          go_wp2
          go_meet
          case rel => exact ⟨_, (true), (by first | rfl | (simp; done) | (simp [*]; done)), H', ⟨by first | omega | exact Nat.le_refl _⟩, ⟨by repeat (first | (with_reducible first | exact HB.out | apply below_alloc | apply pw_below_drewN | apply below_drew1) | exact HB.out)⟩⟩
        · rw [if_neg c10] at H
          have c10b0 : decide (a3 < 0) = false := decide_eq_false c10
          clear c10
          by_cases c11 : a3 > (a2.size : Int)
          · rw [if_pos c11] at H
            have c11b0 : decide ((a2.size : Int) < a3) = true := decide_eq_true c11
            clear c11
            have H' := Aside0.mk H
            clear H
            go_wp2
            go_meet
            case rel => exact ⟨_, (true), (by first | rfl | (simp; done) | (simp [*]; done)), H', ⟨by first | omega | exact Nat.le_refl _⟩, ⟨by repeat (first | (with_reducible first | exact HB.out | apply below_alloc | apply pw_below_drewN | apply below_drew1) | exact HB.out)⟩⟩
          · rw [if_neg c11] at H
            have c11b0 : decide ((a2.size : Int) < a3) = false := decide_eq_false c11
            clear c11
            by_cases c12 : (a0.size : Int) = 16
            · rw [if_pos c12] at H
              have c12b0 : ((a0.size : Int) == 16) = true := beq_iff_eq.mpr c12
              have c12b1 : ((a0.size : Int) != 16) = false := bne_eq_false_iff_eq.mpr c12
              clear c12
              have H' := Aside0.mk H
              clear H
              go_wp2
              go_meet
              case rel => exact ⟨_, (((a1.size : Int) != 12)), (by first | rfl | (simp; done) | (simp [*]; done)), H', ⟨by first | omega | exact Nat.le_refl _⟩, ⟨by repeat (first | (with_reducible first | exact HB.out | apply below_alloc | apply pw_below_drewN | apply below_drew1) | exact HB.out)⟩⟩
            · rw [if_neg c12] at H
              have c12b0 : ((a0.size : Int) == 16) = false := beq_eq_false_iff_ne.mpr c12
              have c12b1 : ((a0.size : Int) != 16) = true := bne_iff_ne.mpr c12
              have H' := Aside0.mk H
              clear H
              go_wp2
              go_meet
              case rel => exact ⟨_, (true), (by first | rfl | (simp; done) | (simp [*]; done)), H', ⟨by first | omega | exact Nat.le_refl _⟩, ⟨by repeat (first | (with_reducible first | exact HB.out | apply below_alloc | apply pw_below_drewN | apply below_drew1) | exact HB.out)⟩⟩
    case rest =>
      clear HC7
      try clear c1
      try clear c2
      try clear p2
      try clear c6
      try clear c9
      try clear c9b0
      try clear c9b1
      try clear c10
      try clear c10b0
      try clear c11
      try clear c11b0
      try clear c12
      try clear c12b0
      try clear c12b1
      obtain ⟨kq, x39_6, rfl, HA, HJ6, HB⟩ := hcut
      cases kq with
      | zero => exact absurd HA.out (by simp [legatelaw05_CtrBegins.j0])
      | succ kj6 =>
        have H := HA.out
        clear HA
        simp only [legatelaw05_CtrBegins.j0] at H
        by_cases c13 : x39_6 = true
        · subst c13
          have H1 : (some true) = some r := by rw [if_pos rfl] at H; exact H
          clear H
          have H := H1
          clear H1
          obtain rfl := Option.some.inj H
          go_wp2
          go_ret
          exact ⟨by first | rfl | (simp [errW_none, errW_some] <;> rfl) | (simp [*, errW_none, errW_some] <;> rfl), by repeat (first | (with_reducible first | exact HB.out | apply below_alloc | apply pw_below_drewN | apply below_drew1) | exact HB.out)⟩
        · replace c13 := Bool.eq_false_iff.mpr c13
          subst c13
          have H1 : ((ctr_Stream.f a0 a1 a3).bind fun t229 => ((ctr_Stream.f a0 a1 (a2.size : Int)).bind fun t230 => ((ctr_Cipher.f kj6 a0 a1 a2).bind fun t231 => (if 0 ≤ a3 then (if a3 ≤ (a2.size : Int) then ((ctr_Cipher.f kj6 a0 a1 (a2.extract 0 (a3 : Int).toNat)).bind fun t232 => (if true = true then (if (t230.size : Int) = (a2.size : Int) then (if a3 ≤ (t230.size : Int) then (if t229.toList = (t230.extract 0 (a3 : Int).toNat).toList then (if (t231.size : Int) = (a2.size : Int) then (if a3 ≤ (t231.size : Int) then (some (t232.toList == (t231.extract 0 (a3 : Int).toNat).toList)) else (none)) else (some false)) else (some false)) else (none)) else (some false)) else (some false))) else (none)) else (none))))) = some r := by rw [if_neg (show ¬ (false = true) by decide)] at H; exact H
          clear H
          have H := H1
          clear H1
          replace H := Option.bind_eq_some_iff.mp H
          obtain ⟨t229, A140, H⟩ := H
          replace H : ((ctr_Stream.f a0 a1 (a2.size : Int)).bind fun t230 => ((ctr_Cipher.f kj6 a0 a1 a2).bind fun t231 => (if 0 ≤ a3 then (if a3 ≤ (a2.size : Int) then ((ctr_Cipher.f kj6 a0 a1 (a2.extract 0 (a3 : Int).toNat)).bind fun t232 => (if true = true then (if (t230.size : Int) = (a2.size : Int) then (if a3 ≤ (t230.size : Int) then (if t229.toList = (t230.extract 0 (a3 : Int).toNat).toList then (if (t231.size : Int) = (a2.size : Int) then (if a3 ≤ (t231.size : Int) then (some (t232.toList == (t231.extract 0 (a3 : Int).toNat).toList)) else (none)) else (some false)) else (some false)) else (none)) else (some false)) else (some false))) else (none)) else (none)))) = some r := H
          have A14 := Aside0.mk A140
          clear A140
          replace H := Option.bind_eq_some_iff.mp H
          obtain ⟨t230, A150, H⟩ := H
          replace H : ((ctr_Cipher.f kj6 a0 a1 a2).bind fun t231 => (if 0 ≤ a3 then (if a3 ≤ (a2.size : Int) then ((ctr_Cipher.f kj6 a0 a1 (a2.extract 0 (a3 : Int).toNat)).bind fun t232 => (if true = true then (if (t230.size : Int) = (a2.size : Int) then (if a3 ≤ (t230.size : Int) then (if t229.toList = (t230.extract 0 (a3 : Int).toNat).toList then (if (t231.size : Int) = (a2.size : Int) then (if a3 ≤ (t231.size : Int) then (some (t232.toList == (t231.extract 0 (a3 : Int).toNat).toList)) else (none)) else (some false)) else (some false)) else (none)) else (some false)) else (some false))) else (none)) else (none))) = some r := H
          have A15 := Aside0.mk A150
          clear A150
          replace H := Option.bind_eq_some_iff.mp H
          obtain ⟨t231, A160, H⟩ := H
          replace H : (if 0 ≤ a3 then (if a3 ≤ (a2.size : Int) then ((ctr_Cipher.f kj6 a0 a1 (a2.extract 0 (a3 : Int).toNat)).bind fun t232 => (if true = true then (if (t230.size : Int) = (a2.size : Int) then (if a3 ≤ (t230.size : Int) then (if t229.toList = (t230.extract 0 (a3 : Int).toNat).toList then (if (t231.size : Int) = (a2.size : Int) then (if a3 ≤ (t231.size : Int) then (some (t232.toList == (t231.extract 0 (a3 : Int).toNat).toList)) else (none)) else (some false)) else (some false)) else (none)) else (some false)) else (some false))) else (none)) else (none)) = some r := H
          have A16 := Aside0.mk A160
          clear A160
          by_cases c17 : 0 ≤ a3
          · rw [if_pos c17] at H
            have c17b0 := eq_true c17
            have c17b1 : decide (0 ≤ a3) = true := decide_eq_true c17
            clear c17
            by_cases c18 : a3 ≤ (a2.size : Int)
            · rw [if_pos c18] at H
              have c18b0 := eq_true c18
              have c18b1 : decide (a3 ≤ (a2.size : Int)) = true := decide_eq_true c18
              clear c18
              replace H := Option.bind_eq_some_iff.mp H
              obtain ⟨t232, A190, H⟩ := H
              replace H : (if true = true then (if (t230.size : Int) = (a2.size : Int) then (if a3 ≤ (t230.size : Int) then (if t229.toList = (t230.extract 0 (a3 : Int).toNat).toList then (if (t231.size : Int) = (a2.size : Int) then (if a3 ≤ (t231.size : Int) then (some (t232.toList == (t231.extract 0 (a3 : Int).toNat).toList)) else (none)) else (some false)) else (some false)) else (none)) else (some false)) else (some false)) = some r := H
              have A19 := Aside0.mk A190
              clear A190
              by_cases c20 : true = true
              · clear c20
                have H1 : (if (t230.size : Int) = (a2.size : Int) then (if a3 ≤ (t230.size : Int) then (if t229.toList = (t230.extract 0 (a3 : Int).toNat).toList then (if (t231.size : Int) = (a2.size : Int) then (if a3 ≤ (t231.size : Int) then (some (t232.toList == (t231.extract 0 (a3 : Int).toNat).toList)) else (none)) else (some false)) else (some false)) else (none)) else (some false)) = some r := by first | (rw [if_pos rfl] at H; exact H) | (rw [if_pos trivial] at H; exact H) | simpa using H
                clear H
                have H := H1
                clear H1
                by_cases c21 : (t230.size : Int) = (a2.size : Int)
                · rw [if_pos c21] at H
                  have c21b0 : ((t230.size : Int) == (a2.size : Int)) = true := beq_iff_eq.mpr c21
                  have c21b1 : ((t230.size : Int) != (a2.size : Int)) = false := bne_eq_false_iff_eq.mpr c21
                  have c21b2 : (t230.size == a2.size) = true := by first | simpa using c21 | (simp at c21 ⊢; omega)
                  clear c21
                  have c22b0 := eq_true (of_decide_eq_true (by first | (with_reducible assumption) | assumption) : 0 ≤ a3)
                  by_cases c23 : a3 ≤ (t230.size : Int)
                  · rw [if_pos c23] at H
                    have c23b0 := eq_true c23
                    have c23b1 : decide (a3 ≤ (t230.size : Int)) = true := decide_eq_true c23
                    clear c23
                    by_cases c24 : t229.toList = (t230.extract 0 (a3 : Int).toNat).toList
                    · rw [if_pos c24] at H
                      have c24b0 : (t229.toList == (t230.extract 0 (a3 : Int).toNat).toList) = true := beq_iff_eq.mpr c24
                      have c24b1 : (t229.toList != (t230.extract 0 (a3 : Int).toNat).toList) = false := bne_eq_false_iff_eq.mpr c24
                      clear c24
                      by_cases c25 : (t231.size : Int) = (a2.size : Int)
                      · rw [if_pos c25] at H
                        have c25b0 : ((t231.size : Int) == (a2.size : Int)) = true := beq_iff_eq.mpr c25
                        have c25b1 : ((t231.size : Int) != (a2.size : Int)) = false := bne_eq_false_iff_eq.mpr c25
                        have c25b2 : (t231.size == a2.size) = true := by first | simpa using c25 | (simp at c25 ⊢; omega)
                        clear c25
                        have c26b0 := eq_true (of_decide_eq_true (by first | (with_reducible assumption) | assumption) : 0 ≤ a3)
                        by_cases c27 : a3 ≤ (t231.size : Int)
                        · rw [if_pos c27] at H
                          have c27b0 := eq_true c27
                          have c27b1 : decide (a3 ≤ (t231.size : Int)) = true := decide_eq_true c27
                          clear c27
                          obtain rfl := Option.some.inj H
                          go_wp2_with (first | ((with_reducible refine gate_callee (f := 32) rfl ?_); refine goesL_ (some 44) rfl rfl Try.func32 (by kernel_rfl) rfl #[.string a0, .string a1, .int .i64 a3] rfl (by (try simp only [List.map_toArray, List.map_cons, List.map_nil]); first | done | rfl | (simp only [List.length_drop, List.length_take]; rfl)) ?_; (with_reducible refine (ctr_Stream.calls a0 a1 a3 t229 _ A14.out).mono ?_); rintro e w28 ⟨rfl, hb⟩; refine ⟨_, rfl, ?_⟩; have n0_ := Aside0.mk (below_step (by repeat (first | (with_reducible first | exact HB.out | apply below_alloc | apply pw_below_drewN | apply below_drew1) | exact HB.out)) hb); clear HB; have HB := n0_; clear n0_; (try clear hb); (try clear hb2); (try clear hk); (try clear hi)) | ((with_reducible refine gate_callee (f := 32) rfl ?_); refine goesL_ (some 49) rfl rfl Try.func32 (by kernel_rfl) rfl #[.string a0, .string a1, .int .i64 (a2.size : Int)] rfl (by (try simp only [List.map_toArray, List.map_cons, List.map_nil]); first | done | rfl | (simp only [List.length_drop, List.length_take]; rfl)) ?_; (with_reducible refine (ctr_Stream.calls a0 a1 (a2.size : Int) t230 _ A15.out).mono ?_); rintro e w29 ⟨rfl, hb⟩; refine ⟨_, rfl, ?_⟩; have n0_ := Aside0.mk (below_step (by repeat (first | (with_reducible first | exact HB.out | apply below_alloc | apply pw_below_drewN | apply below_drew1) | exact HB.out)) hb); clear HB; have HB := n0_; clear n0_; (try clear hb); (try clear hb2); (try clear hk); (try clear hi)) | ((with_reducible refine gate_callee (f := 30) rfl ?_); refine goesL_ (some 53) rfl rfl Try.func30 (by kernel_rfl) rfl #[.string a0, .string a1, .string a2] rfl (by (try simp only [List.map_toArray, List.map_cons, List.map_nil]); first | done | rfl | (simp only [List.length_drop, List.length_take]; rfl)) ?_; (with_reducible refine (ctr_Cipher.calls kj6 a0 a1 a2 t231 _ A16.out).mono ?_); rintro e w30 ⟨rfl, hb⟩; refine ⟨_, rfl, ?_⟩; have n0_ := Aside0.mk (below_step (by repeat (first | (with_reducible first | exact HB.out | apply below_alloc | apply pw_below_drewN | apply below_drew1) | exact HB.out)) hb); clear HB; have HB := n0_; clear n0_; (try clear hb); (try clear hb2); (try clear hk); (try clear hi)) | ((with_reducible refine gate_callee (f := 30) rfl ?_); refine goesL_ (some 59) rfl rfl Try.func30 (by kernel_rfl) rfl #[.string a0, .string a1, .string (a2.extract 0 (a3 : Int).toNat)] rfl (by (try simp only [List.map_toArray, List.map_cons, List.map_nil]); first | done | rfl | (simp only [List.length_drop, List.length_take]; rfl)) ?_; (with_reducible refine (ctr_Cipher.calls kj6 a0 a1 (a2.extract 0 (a3 : Int).toNat) t232 _ A19.out).mono ?_); rintro e w31 ⟨rfl, hb⟩; refine ⟨_, rfl, ?_⟩; have n0_ := Aside0.mk (below_step (by repeat (first | (with_reducible first | exact HB.out | apply below_alloc | apply pw_below_drewN | apply below_drew1) | exact HB.out)) hb); clear HB; have HB := n0_; clear n0_; (try clear hb); (try clear hb2); (try clear hk); (try clear hi)))
                          go_ret
                          exact ⟨by first | rfl | (simp [errW_none, errW_some] <;> rfl) | (simp [*, errW_none, errW_some] <;> rfl), by repeat (first | (with_reducible first | exact HB.out | apply below_alloc | apply pw_below_drewN | apply below_drew1) | exact HB.out)⟩
                        · rw [if_neg c27] at H
                          exact absurd H (by simp)
                      · rw [if_neg c25] at H
                        have c25b0 : ((t231.size : Int) == (a2.size : Int)) = false := beq_eq_false_iff_ne.mpr c25
                        have c25b1 : ((t231.size : Int) != (a2.size : Int)) = true := bne_iff_ne.mpr c25
                        have c25b2 : (t231.size == a2.size) = false := by first | simpa using c25 | (simp at c25 ⊢; omega)
                        obtain rfl := Option.some.inj H
                        go_wp2_with (first | ((with_reducible refine gate_callee (f := 32) rfl ?_); refine goesL_ (some 44) rfl rfl Try.func32 (by kernel_rfl) rfl #[.string a0, .string a1, .int .i64 a3] rfl (by (try simp only [List.map_toArray, List.map_cons, List.map_nil]); first | done | rfl | (simp only [List.length_drop, List.length_take]; rfl)) ?_; (with_reducible refine (ctr_Stream.calls a0 a1 a3 t229 _ A14.out).mono ?_); rintro e w32 ⟨rfl, hb⟩; refine ⟨_, rfl, ?_⟩; have n0_ := Aside0.mk (below_step (by repeat (first | (with_reducible first | exact HB.out | apply below_alloc | apply pw_below_drewN | apply below_drew1) | exact HB.out)) hb); clear HB; have HB := n0_; clear n0_; (try clear hb); (try clear hb2); (try clear hk); (try clear hi)) | ((with_reducible refine gate_callee (f := 32) rfl ?_); refine goesL_ (some 49) rfl rfl Try.func32 (by kernel_rfl) rfl #[.string a0, .string a1, .int .i64 (a2.size : Int)] rfl (by (try simp only [List.map_toArray, List.map_cons, List.map_nil]); first | done | rfl | (simp only [List.length_drop, List.length_take]; rfl)) ?_; (with_reducible refine (ctr_Stream.calls a0 a1 (a2.size : Int) t230 _ A15.out).mono ?_); rintro e w33 ⟨rfl, hb⟩; refine ⟨_, rfl, ?_⟩; have n0_ := Aside0.mk (below_step (by repeat (first | (with_reducible first | exact HB.out | apply below_alloc | apply pw_below_drewN | apply below_drew1) | exact HB.out)) hb); clear HB; have HB := n0_; clear n0_; (try clear hb); (try clear hb2); (try clear hk); (try clear hi)) | ((with_reducible refine gate_callee (f := 30) rfl ?_); refine goesL_ (some 53) rfl rfl Try.func30 (by kernel_rfl) rfl #[.string a0, .string a1, .string a2] rfl (by (try simp only [List.map_toArray, List.map_cons, List.map_nil]); first | done | rfl | (simp only [List.length_drop, List.length_take]; rfl)) ?_; (with_reducible refine (ctr_Cipher.calls kj6 a0 a1 a2 t231 _ A16.out).mono ?_); rintro e w34 ⟨rfl, hb⟩; refine ⟨_, rfl, ?_⟩; have n0_ := Aside0.mk (below_step (by repeat (first | (with_reducible first | exact HB.out | apply below_alloc | apply pw_below_drewN | apply below_drew1) | exact HB.out)) hb); clear HB; have HB := n0_; clear n0_; (try clear hb); (try clear hb2); (try clear hk); (try clear hi)) | ((with_reducible refine gate_callee (f := 30) rfl ?_); refine goesL_ (some 59) rfl rfl Try.func30 (by kernel_rfl) rfl #[.string a0, .string a1, .string (a2.extract 0 (a3 : Int).toNat)] rfl (by (try simp only [List.map_toArray, List.map_cons, List.map_nil]); first | done | rfl | (simp only [List.length_drop, List.length_take]; rfl)) ?_; (with_reducible refine (ctr_Cipher.calls kj6 a0 a1 (a2.extract 0 (a3 : Int).toNat) t232 _ A19.out).mono ?_); rintro e w35 ⟨rfl, hb⟩; refine ⟨_, rfl, ?_⟩; have n0_ := Aside0.mk (below_step (by repeat (first | (with_reducible first | exact HB.out | apply below_alloc | apply pw_below_drewN | apply below_drew1) | exact HB.out)) hb); clear HB; have HB := n0_; clear n0_; (try clear hb); (try clear hb2); (try clear hk); (try clear hi)))
                        go_ret
                        exact ⟨by first | rfl | (simp [errW_none, errW_some] <;> rfl) | (simp [*, errW_none, errW_some] <;> rfl), by repeat (first | (with_reducible first | exact HB.out | apply below_alloc | apply pw_below_drewN | apply below_drew1) | exact HB.out)⟩
                    · rw [if_neg c24] at H
                      have c24b0 : (t229.toList == (t230.extract 0 (a3 : Int).toNat).toList) = false := beq_eq_false_iff_ne.mpr c24
                      have c24b1 : (t229.toList != (t230.extract 0 (a3 : Int).toNat).toList) = true := bne_iff_ne.mpr c24
                      obtain rfl := Option.some.inj H
                      go_wp2_with (first | ((with_reducible refine gate_callee (f := 32) rfl ?_); refine goesL_ (some 44) rfl rfl Try.func32 (by kernel_rfl) rfl #[.string a0, .string a1, .int .i64 a3] rfl (by (try simp only [List.map_toArray, List.map_cons, List.map_nil]); first | done | rfl | (simp only [List.length_drop, List.length_take]; rfl)) ?_; (with_reducible refine (ctr_Stream.calls a0 a1 a3 t229 _ A14.out).mono ?_); rintro e w36 ⟨rfl, hb⟩; refine ⟨_, rfl, ?_⟩; have n0_ := Aside0.mk (below_step (by repeat (first | (with_reducible first | exact HB.out | apply below_alloc | apply pw_below_drewN | apply below_drew1) | exact HB.out)) hb); clear HB; have HB := n0_; clear n0_; (try clear hb); (try clear hb2); (try clear hk); (try clear hi)) | ((with_reducible refine gate_callee (f := 32) rfl ?_); refine goesL_ (some 49) rfl rfl Try.func32 (by kernel_rfl) rfl #[.string a0, .string a1, .int .i64 (a2.size : Int)] rfl (by (try simp only [List.map_toArray, List.map_cons, List.map_nil]); first | done | rfl | (simp only [List.length_drop, List.length_take]; rfl)) ?_; (with_reducible refine (ctr_Stream.calls a0 a1 (a2.size : Int) t230 _ A15.out).mono ?_); rintro e w37 ⟨rfl, hb⟩; refine ⟨_, rfl, ?_⟩; have n0_ := Aside0.mk (below_step (by repeat (first | (with_reducible first | exact HB.out | apply below_alloc | apply pw_below_drewN | apply below_drew1) | exact HB.out)) hb); clear HB; have HB := n0_; clear n0_; (try clear hb); (try clear hb2); (try clear hk); (try clear hi)) | ((with_reducible refine gate_callee (f := 30) rfl ?_); refine goesL_ (some 53) rfl rfl Try.func30 (by kernel_rfl) rfl #[.string a0, .string a1, .string a2] rfl (by (try simp only [List.map_toArray, List.map_cons, List.map_nil]); first | done | rfl | (simp only [List.length_drop, List.length_take]; rfl)) ?_; (with_reducible refine (ctr_Cipher.calls kj6 a0 a1 a2 t231 _ A16.out).mono ?_); rintro e w38 ⟨rfl, hb⟩; refine ⟨_, rfl, ?_⟩; have n0_ := Aside0.mk (below_step (by repeat (first | (with_reducible first | exact HB.out | apply below_alloc | apply pw_below_drewN | apply below_drew1) | exact HB.out)) hb); clear HB; have HB := n0_; clear n0_; (try clear hb); (try clear hb2); (try clear hk); (try clear hi)) | ((with_reducible refine gate_callee (f := 30) rfl ?_); refine goesL_ (some 59) rfl rfl Try.func30 (by kernel_rfl) rfl #[.string a0, .string a1, .string (a2.extract 0 (a3 : Int).toNat)] rfl (by (try simp only [List.map_toArray, List.map_cons, List.map_nil]); first | done | rfl | (simp only [List.length_drop, List.length_take]; rfl)) ?_; (with_reducible refine (ctr_Cipher.calls kj6 a0 a1 (a2.extract 0 (a3 : Int).toNat) t232 _ A19.out).mono ?_); rintro e w39 ⟨rfl, hb⟩; refine ⟨_, rfl, ?_⟩; have n0_ := Aside0.mk (below_step (by repeat (first | (with_reducible first | exact HB.out | apply below_alloc | apply pw_below_drewN | apply below_drew1) | exact HB.out)) hb); clear HB; have HB := n0_; clear n0_; (try clear hb); (try clear hb2); (try clear hk); (try clear hi)))
                      go_ret
                      exact ⟨by first | rfl | (simp [errW_none, errW_some] <;> rfl) | (simp [*, errW_none, errW_some] <;> rfl), by repeat (first | (with_reducible first | exact HB.out | apply below_alloc | apply pw_below_drewN | apply below_drew1) | exact HB.out)⟩
                  · rw [if_neg c23] at H
                    exact absurd H (by simp)
                · rw [if_neg c21] at H
                  have c21b0 : ((t230.size : Int) == (a2.size : Int)) = false := beq_eq_false_iff_ne.mpr c21
                  have c21b1 : ((t230.size : Int) != (a2.size : Int)) = true := bne_iff_ne.mpr c21
                  have c21b2 : (t230.size == a2.size) = false := by first | simpa using c21 | (simp at c21 ⊢; omega)
                  obtain rfl := Option.some.inj H
                  go_wp2_with (first | ((with_reducible refine gate_callee (f := 32) rfl ?_); refine goesL_ (some 44) rfl rfl Try.func32 (by kernel_rfl) rfl #[.string a0, .string a1, .int .i64 a3] rfl (by (try simp only [List.map_toArray, List.map_cons, List.map_nil]); first | done | rfl | (simp only [List.length_drop, List.length_take]; rfl)) ?_; (with_reducible refine (ctr_Stream.calls a0 a1 a3 t229 _ A14.out).mono ?_); rintro e w40 ⟨rfl, hb⟩; refine ⟨_, rfl, ?_⟩; have n0_ := Aside0.mk (below_step (by repeat (first | (with_reducible first | exact HB.out | apply below_alloc | apply pw_below_drewN | apply below_drew1) | exact HB.out)) hb); clear HB; have HB := n0_; clear n0_; (try clear hb); (try clear hb2); (try clear hk); (try clear hi)) | ((with_reducible refine gate_callee (f := 32) rfl ?_); refine goesL_ (some 49) rfl rfl Try.func32 (by kernel_rfl) rfl #[.string a0, .string a1, .int .i64 (a2.size : Int)] rfl (by (try simp only [List.map_toArray, List.map_cons, List.map_nil]); first | done | rfl | (simp only [List.length_drop, List.length_take]; rfl)) ?_; (with_reducible refine (ctr_Stream.calls a0 a1 (a2.size : Int) t230 _ A15.out).mono ?_); rintro e w41 ⟨rfl, hb⟩; refine ⟨_, rfl, ?_⟩; have n0_ := Aside0.mk (below_step (by repeat (first | (with_reducible first | exact HB.out | apply below_alloc | apply pw_below_drewN | apply below_drew1) | exact HB.out)) hb); clear HB; have HB := n0_; clear n0_; (try clear hb); (try clear hb2); (try clear hk); (try clear hi)) | ((with_reducible refine gate_callee (f := 30) rfl ?_); refine goesL_ (some 53) rfl rfl Try.func30 (by kernel_rfl) rfl #[.string a0, .string a1, .string a2] rfl (by (try simp only [List.map_toArray, List.map_cons, List.map_nil]); first | done | rfl | (simp only [List.length_drop, List.length_take]; rfl)) ?_; (with_reducible refine (ctr_Cipher.calls kj6 a0 a1 a2 t231 _ A16.out).mono ?_); rintro e w42 ⟨rfl, hb⟩; refine ⟨_, rfl, ?_⟩; have n0_ := Aside0.mk (below_step (by repeat (first | (with_reducible first | exact HB.out | apply below_alloc | apply pw_below_drewN | apply below_drew1) | exact HB.out)) hb); clear HB; have HB := n0_; clear n0_; (try clear hb); (try clear hb2); (try clear hk); (try clear hi)) | ((with_reducible refine gate_callee (f := 30) rfl ?_); refine goesL_ (some 59) rfl rfl Try.func30 (by kernel_rfl) rfl #[.string a0, .string a1, .string (a2.extract 0 (a3 : Int).toNat)] rfl (by (try simp only [List.map_toArray, List.map_cons, List.map_nil]); first | done | rfl | (simp only [List.length_drop, List.length_take]; rfl)) ?_; (with_reducible refine (ctr_Cipher.calls kj6 a0 a1 (a2.extract 0 (a3 : Int).toNat) t232 _ A19.out).mono ?_); rintro e w43 ⟨rfl, hb⟩; refine ⟨_, rfl, ?_⟩; have n0_ := Aside0.mk (below_step (by repeat (first | (with_reducible first | exact HB.out | apply below_alloc | apply pw_below_drewN | apply below_drew1) | exact HB.out)) hb); clear HB; have HB := n0_; clear n0_; (try clear hb); (try clear hb2); (try clear hk); (try clear hi)))
                  go_ret
                  exact ⟨by first | rfl | (simp [errW_none, errW_some] <;> rfl) | (simp [*, errW_none, errW_some] <;> rfl), by repeat (first | (with_reducible first | exact HB.out | apply below_alloc | apply pw_below_drewN | apply below_drew1) | exact HB.out)⟩
              · exact absurd rfl c20
            · rw [if_neg c18] at H
              exact absurd H (by simp)
          · rw [if_neg c17] at H
            exact absurd H (by simp)
  · replace c6 := Bool.eq_false_iff.mpr c6
    subst c6
    have H1 : (some false) = some r := by rw [if_neg (show ¬ (false = true) by decide)] at H; exact H
    clear H
    have H := H1
    clear H1
    obtain rfl := Option.some.inj H
    go_enter Try.func11, Try.ntmps11
    go_wp2_with (first | ((with_reducible refine gate_callee (f := 29) rfl ?_); refine goesL_ (some 14) rfl rfl Try.func29 (by kernel_rfl) rfl #[] rfl (by (try simp only [List.map_toArray, List.map_cons, List.map_nil]); first | done | rfl | (simp only [List.length_drop, List.length_take]; rfl)) ?_; (with_reducible refine (legatelaw05_works.calls  false _ A5.out).mono ?_); rintro e w48 ⟨rfl, hb⟩; refine ⟨_, rfl, ?_⟩; have n0_ := Aside0.mk (below_step (by repeat (first | (with_reducible first | exact HB.out | apply below_alloc | apply pw_below_drewN | apply below_drew1) | exact HB.out)) hb); clear HB; have HB := n0_; clear n0_; (try clear hb); (try clear hb2); (try clear hk); (try clear hi)))
    go_ret
    exact ⟨by first | rfl | (simp [errW_none, errW_some] <;> rfl) | (simp [*, errW_none, errW_some] <;> rfl), by repeat (first | (with_reducible first | exact HB.out | apply below_alloc | apply pw_below_drewN | apply below_drew1) | exact HB.out)⟩

/-- THE ONE PURE STATEMENT of legatelaw05_CtrBegins: yours. -/
def legatelaw05_CtrBegins.Pure : Prop := ∀ (a0 : ByteArray) (a1 : ByteArray) (a2 : ByteArray) (a3 : Int), a0.size ≤ 140737488351232 → a1.size ≤ 140737488351232 → a2.size ≤ 140737488351232 → (Lit.int .i64 a3).wf = true → ∃ k, legatelaw05_CtrBegins.f k a0 a1 a2 a3 = some true
theorem legatelaw05_CtrBegins.walk (P : legatelaw05_CtrBegins.Pure) (a0 : ByteArray) (a1 : ByteArray) (a2 : ByteArray) (a3 : Int) (w : World) (w0 : a0.size ≤ 140737488351232) (w1 : a1.size ≤ 140737488351232) (w2 : a2.size ≤ 140737488351232) (w3 : (Lit.int .i64 a3).wf = true) :
    Calls Try.prog 11 #[.string a0, .string a1, .string a2, .int .i64 a3] w fun e w' => e = .returned (.bool true) ∧ Below w.heap.size w w' := by
  obtain ⟨k, h⟩ := P a0 a1 a2 a3 w0 w1 w2 w3
  refine (legatelaw05_CtrBegins.calls k a0 a1 a2 a3 true w h).mono ?_
  rintro e w' ⟨rfl, hd⟩
  exact ⟨rfl, hd⟩

end Go.Proofs.Ytkgijkfcmbpgpaa.PAll
