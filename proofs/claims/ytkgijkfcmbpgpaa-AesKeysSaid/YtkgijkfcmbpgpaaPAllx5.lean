-- written by wip/printx.py, a program of this session, over the kit's print
import Derived.Test.YtkgijkfcmbpgpaaGAes
import Derived.Test.YtkgijkfcmbpgpaaPAllx0
import Derived.Test.YtkgijkfcmbpgpaaPAllx1
import Derived.Test.YtkgijkfcmbpgpaaPAllx2
import Derived.Test.YtkgijkfcmbpgpaaPAllx3
import Derived.Test.YtkgijkfcmbpgpaaPAllx4
namespace Go.Proofs.Ytkgijkfcmbpgpaa.PAll
open Go.RowKit Go.Proofs.YtkgijkfcmbpgpaaW.PrintWords Go.Proofs.YtkgijkfcmbpgpaaW.PrintLast Go.Proofs.YtkgijkfcmbpgpaaW.PrintMore
open Go.Proofs.Ytkgijkfcmbpgpaa.Giv
attribute [local go_sem] max2_int min2_int max_two min_two max_three min_three max_four min_four   -- for this text's walks alone
set_option linter.unusedVariables false
set_option linter.unusedSimpArgs false

/-! ### legatelaw04_AesEncrypts: function 5 -/
def legatelaw04_AesEncrypts.f (k : Nat) (a0 : ByteArray) (a1 : ByteArray) : Option (Bool) := (legatelaw04_works.f k).bind fun t185 => (if t185 = true then ((legateref04_Table.f k).bind fun t186 => ((aes_Encrypt.f a0 a1).bind fun t189 => ((legateref04_Encrypt.f k t186 a0 a1).bind fun t190 => (if t189.toList = t190.toList then ((aes_Expand.f a0).bind fun t191 => ((legateref04_Expand.f k t186 a0).bind fun t192 => (some (t191.toList == t192.toList)))) else (some false))))) else (some false))
set_option maxHeartbeats 8000000 in
set_option maxRecDepth 100000 in
theorem legatelaw04_AesEncrypts.calls (k : Nat) (a0 : ByteArray) (a1 : ByteArray) (r : Bool) (w : World) (h : legatelaw04_AesEncrypts.f k a0 a1 = some r) :
    Calls Try.prog 5 #[.string a0, .string a1] w fun e w' => e = .returned (.bool r) ∧ Below w.heap.size w w' := by
  have HB := Aside0.mk (Below.refl w.heap.size w)
  have H : ((legatelaw04_works.f k).bind fun t185 => (if t185 = true then ((legateref04_Table.f k).bind fun t186 => ((aes_Encrypt.f a0 a1).bind fun t189 => ((legateref04_Encrypt.f k t186 a0 a1).bind fun t190 => (if t189.toList = t190.toList then ((aes_Expand.f a0).bind fun t191 => ((legateref04_Expand.f k t186 a0).bind fun t192 => (some (t191.toList == t192.toList)))) else (some false))))) else (some false))) = some r := h
  clear h
  replace H := Option.bind_eq_some_iff.mp H
  obtain ⟨t185, A30, H⟩ := H
  replace H : (if t185 = true then ((legateref04_Table.f k).bind fun t186 => ((aes_Encrypt.f a0 a1).bind fun t189 => ((legateref04_Encrypt.f k t186 a0 a1).bind fun t190 => (if t189.toList = t190.toList then ((aes_Expand.f a0).bind fun t191 => ((legateref04_Expand.f k t186 a0).bind fun t192 => (some (t191.toList == t192.toList)))) else (some false))))) else (some false)) = some r := H
  have A3 := Aside0.mk A30
  clear A30
  by_cases c4 : t185 = true
  · subst c4
    have H1 : ((legateref04_Table.f k).bind fun t186 => ((aes_Encrypt.f a0 a1).bind fun t189 => ((legateref04_Encrypt.f k t186 a0 a1).bind fun t190 => (if t189.toList = t190.toList then ((aes_Expand.f a0).bind fun t191 => ((legateref04_Expand.f k t186 a0).bind fun t192 => (some (t191.toList == t192.toList)))) else (some false))))) = some r := by rw [if_pos rfl] at H; exact H
    clear H
    have H := H1
    clear H1
    replace H := Option.bind_eq_some_iff.mp H
    obtain ⟨t186, A50, H⟩ := H
    replace H : ((aes_Encrypt.f a0 a1).bind fun t189 => ((legateref04_Encrypt.f k t186 a0 a1).bind fun t190 => (if t189.toList = t190.toList then ((aes_Expand.f a0).bind fun t191 => ((legateref04_Expand.f k t186 a0).bind fun t192 => (some (t191.toList == t192.toList)))) else (some false)))) = some r := H
    have A5 := Aside0.mk A50
    clear A50
    replace H := Option.bind_eq_some_iff.mp H
    obtain ⟨t189, A60, H⟩ := H
    replace H : ((legateref04_Encrypt.f k t186 a0 a1).bind fun t190 => (if t189.toList = t190.toList then ((aes_Expand.f a0).bind fun t191 => ((legateref04_Expand.f k t186 a0).bind fun t192 => (some (t191.toList == t192.toList)))) else (some false))) = some r := H
    have A6 := Aside0.mk A60
    clear A60
    replace H := Option.bind_eq_some_iff.mp H
    obtain ⟨t190, A70, H⟩ := H
    replace H : (if t189.toList = t190.toList then ((aes_Expand.f a0).bind fun t191 => ((legateref04_Expand.f k t186 a0).bind fun t192 => (some (t191.toList == t192.toList)))) else (some false)) = some r := H
    have A7 := Aside0.mk A70
    clear A70
    by_cases c8 : t189.toList = t190.toList
    · rw [if_pos c8] at H
      have c8b0 : (t189.toList == t190.toList) = true := beq_iff_eq.mpr c8
      have c8b1 : (t189.toList != t190.toList) = false := bne_eq_false_iff_eq.mpr c8
      clear c8
      replace H := Option.bind_eq_some_iff.mp H
      obtain ⟨t191, A90, H⟩ := H
      replace H : ((legateref04_Expand.f k t186 a0).bind fun t192 => (some (t191.toList == t192.toList))) = some r := H
      have A9 := Aside0.mk A90
      clear A90
      replace H := Option.bind_eq_some_iff.mp H
      obtain ⟨t192, A100, H⟩ := H
      replace H : (some (t191.toList == t192.toList)) = some r := H
      have A10 := Aside0.mk A100
      clear A100
      obtain rfl := Option.some.inj H
      go_enter Try.func5, Try.ntmps5
      go_wp2_with (first | ((with_reducible refine gate_callee (f := 19) rfl ?_); refine goesL_ (some 7) rfl rfl Try.func19 (by kernel_rfl) rfl #[] rfl (by (try simp only [List.map_toArray, List.map_cons, List.map_nil]); first | done | rfl | (simp only [List.length_drop, List.length_take]; rfl)) ?_; (with_reducible refine (legatelaw04_works.calls k  true _ A3.out).mono ?_); rintro e w11 ⟨rfl, hb⟩; refine ⟨_, rfl, ?_⟩; have n0_ := Aside0.mk (below_step (by repeat (first | (with_reducible first | exact HB.out | apply below_alloc | apply pw_below_drewN | apply below_drew1) | exact HB.out)) hb); clear HB; have HB := n0_; clear n0_; (try clear hb); (try clear hb2); (try clear hk); (try clear hi)) | ((with_reducible refine gate_callee (f := 24) rfl ?_); refine goesL_ (some 10) rfl rfl Try.func24 (by kernel_rfl) rfl #[] rfl (by (try simp only [List.map_toArray, List.map_cons, List.map_nil]); first | done | rfl | (simp only [List.length_drop, List.length_take]; rfl)) ?_; (with_reducible refine (legateref04_Table.calls k  t186 _ A5.out).mono ?_); rintro e w12 ⟨v187, rfl, ho0, hb⟩; refine ⟨_, rfl, ?_⟩; have n0_ := Aside0.mk (Kd.R_lower ho0 (below_size (by repeat (first | (with_reducible first | exact HB.out | apply below_alloc | apply pw_below_drewN | apply below_drew1) | exact HB.out)))); have n1_ := Aside0.mk (below_step (by repeat (first | (with_reducible first | exact HB.out | apply below_alloc | apply pw_below_drewN | apply below_drew1) | exact HB.out)) hb); clear HB; have HO188 := n0_; have HB := n1_; clear n0_ n1_; (try clear hb); (try clear hb2); (try clear hk); (try clear hi); (try clear ho0)) | (go_at_call 25; (with_reducible refine (aes_Encrypt.calls a0 a1 t189 _ A6.out).mono ?_); rintro e w13 ⟨rfl, hb⟩; have n0_ := Aside0.mk (Kd.R_below (by (with_reducible repeat (first | apply Kd.R_alloc | apply Kd.R_drewN | apply Kd.R_drew)); exact HO188.out) hb); have n1_ := Aside0.mk (below_step (by repeat (first | (with_reducible first | exact HB.out | apply below_alloc | apply pw_below_drewN | apply below_drew1) | exact HB.out)) hb); clear HO188; clear HB; have HO188 := n0_; have HB := n1_; clear n0_ n1_; (try clear hb); (try clear hb2); (try clear hk); (try clear hi); obtain ⟨Ao14, co14, eo14⟩ := Kd.R_slice HO188.out; subst eo14) | (go_at_call 26; (with_reducible refine (legateref04_Encrypt.calls k _ _ t186 a0 a1 t190 _ ?side1 ?side2 A7.out).mono ?_); (case side1 => repeat (first | exact (Kd.R_reads' HO188.out).2.2 | (with_reducible refine Kd.C_alloc ?_ _) | (with_reducible refine Kd.C_drewN ?_ _) | (with_reducible refine Kd.C_drew ?_))); (case side2 => exact (Kd.R_reads' HO188.out).2.1); rintro e w15 ⟨rfl, hb⟩; have n0_ := Aside0.mk (Kd.R_below (by (with_reducible repeat (first | apply Kd.R_alloc | apply Kd.R_drewN | apply Kd.R_drew)); exact HO188.out) hb); have n1_ := Aside0.mk (below_step (by repeat (first | (with_reducible first | exact HB.out | apply below_alloc | apply pw_below_drewN | apply below_drew1) | exact HB.out)) hb); clear HO188; clear HB; have HO188 := n0_; have HB := n1_; clear n0_ n1_; (try clear hb); (try clear hb2); (try clear hk); (try clear hi)) | (go_at_call 27; (with_reducible refine (aes_Expand.calls a0 t191 _ A9.out).mono ?_); rintro e w16 ⟨rfl, hb⟩; have n0_ := Aside0.mk (Kd.R_below (by (with_reducible repeat (first | apply Kd.R_alloc | apply Kd.R_drewN | apply Kd.R_drew)); exact HO188.out) hb); have n1_ := Aside0.mk (below_step (by repeat (first | (with_reducible first | exact HB.out | apply below_alloc | apply pw_below_drewN | apply below_drew1) | exact HB.out)) hb); clear HO188; clear HB; have HO188 := n0_; have HB := n1_; clear n0_ n1_; (try clear hb); (try clear hb2); (try clear hk); (try clear hi)) | (go_at_call 28; (with_reducible refine (legateref04_Expand.calls k _ _ t186 a0 t192 _ ?side1 ?side2 A10.out).mono ?_); (case side1 => repeat (first | exact (Kd.R_reads' HO188.out).2.2 | (with_reducible refine Kd.C_alloc ?_ _) | (with_reducible refine Kd.C_drewN ?_ _) | (with_reducible refine Kd.C_drew ?_))); (case side2 => exact (Kd.R_reads' HO188.out).2.1); rintro e w17 ⟨rfl, hb⟩; have n0_ := Aside0.mk (Kd.R_below (by (with_reducible repeat (first | apply Kd.R_alloc | apply Kd.R_drewN | apply Kd.R_drew)); exact HO188.out) hb); have n1_ := Aside0.mk (below_step (by repeat (first | (with_reducible first | exact HB.out | apply below_alloc | apply pw_below_drewN | apply below_drew1) | exact HB.out)) hb); clear HO188; clear HB; have HO188 := n0_; have HB := n1_; clear n0_ n1_; (try clear hb); (try clear hb2); (try clear hk); (try clear hi)))
      go_ret
      exact ⟨by first | rfl | (simp [errW_none, errW_some] <;> rfl) | (simp [*, errW_none, errW_some] <;> rfl), by repeat (first | (with_reducible first | exact HB.out | apply below_alloc | apply pw_below_drewN | apply below_drew1) | exact HB.out)⟩
    · rw [if_neg c8] at H
      have c8b0 : (t189.toList == t190.toList) = false := beq_eq_false_iff_ne.mpr c8
      have c8b1 : (t189.toList != t190.toList) = true := bne_iff_ne.mpr c8
      obtain rfl := Option.some.inj H
      go_enter Try.func5, Try.ntmps5
      go_wp2_with (first | ((with_reducible refine gate_callee (f := 19) rfl ?_); refine goesL_ (some 7) rfl rfl Try.func19 (by kernel_rfl) rfl #[] rfl (by (try simp only [List.map_toArray, List.map_cons, List.map_nil]); first | done | rfl | (simp only [List.length_drop, List.length_take]; rfl)) ?_; (with_reducible refine (legatelaw04_works.calls k  true _ A3.out).mono ?_); rintro e w18 ⟨rfl, hb⟩; refine ⟨_, rfl, ?_⟩; have n0_ := Aside0.mk (below_step (by repeat (first | (with_reducible first | exact HB.out | apply below_alloc | apply pw_below_drewN | apply below_drew1) | exact HB.out)) hb); clear HB; have HB := n0_; clear n0_; (try clear hb); (try clear hb2); (try clear hk); (try clear hi)) | ((with_reducible refine gate_callee (f := 24) rfl ?_); refine goesL_ (some 10) rfl rfl Try.func24 (by kernel_rfl) rfl #[] rfl (by (try simp only [List.map_toArray, List.map_cons, List.map_nil]); first | done | rfl | (simp only [List.length_drop, List.length_take]; rfl)) ?_; (with_reducible refine (legateref04_Table.calls k  t186 _ A5.out).mono ?_); rintro e w19 ⟨v187, rfl, ho0, hb⟩; refine ⟨_, rfl, ?_⟩; have n0_ := Aside0.mk (Kd.R_lower ho0 (below_size (by repeat (first | (with_reducible first | exact HB.out | apply below_alloc | apply pw_below_drewN | apply below_drew1) | exact HB.out)))); have n1_ := Aside0.mk (below_step (by repeat (first | (with_reducible first | exact HB.out | apply below_alloc | apply pw_below_drewN | apply below_drew1) | exact HB.out)) hb); clear HB; have HO188 := n0_; have HB := n1_; clear n0_ n1_; (try clear hb); (try clear hb2); (try clear hk); (try clear hi); (try clear ho0)) | (go_at_call 25; (with_reducible refine (aes_Encrypt.calls a0 a1 t189 _ A6.out).mono ?_); rintro e w20 ⟨rfl, hb⟩; have n0_ := Aside0.mk (Kd.R_below (by (with_reducible repeat (first | apply Kd.R_alloc | apply Kd.R_drewN | apply Kd.R_drew)); exact HO188.out) hb); have n1_ := Aside0.mk (below_step (by repeat (first | (with_reducible first | exact HB.out | apply below_alloc | apply pw_below_drewN | apply below_drew1) | exact HB.out)) hb); clear HO188; clear HB; have HO188 := n0_; have HB := n1_; clear n0_ n1_; (try clear hb); (try clear hb2); (try clear hk); (try clear hi); obtain ⟨Ao21, co21, eo21⟩ := Kd.R_slice HO188.out; subst eo21) | (go_at_call 26; (with_reducible refine (legateref04_Encrypt.calls k _ _ t186 a0 a1 t190 _ ?side1 ?side2 A7.out).mono ?_); (case side1 => repeat (first | exact (Kd.R_reads' HO188.out).2.2 | (with_reducible refine Kd.C_alloc ?_ _) | (with_reducible refine Kd.C_drewN ?_ _) | (with_reducible refine Kd.C_drew ?_))); (case side2 => exact (Kd.R_reads' HO188.out).2.1); rintro e w22 ⟨rfl, hb⟩; have n0_ := Aside0.mk (Kd.R_below (by (with_reducible repeat (first | apply Kd.R_alloc | apply Kd.R_drewN | apply Kd.R_drew)); exact HO188.out) hb); have n1_ := Aside0.mk (below_step (by repeat (first | (with_reducible first | exact HB.out | apply below_alloc | apply pw_below_drewN | apply below_drew1) | exact HB.out)) hb); clear HO188; clear HB; have HO188 := n0_; have HB := n1_; clear n0_ n1_; (try clear hb); (try clear hb2); (try clear hk); (try clear hi)))
      go_ret
      exact ⟨by first | rfl | (simp [errW_none, errW_some] <;> rfl) | (simp [*, errW_none, errW_some] <;> rfl), by repeat (first | (with_reducible first | exact HB.out | apply below_alloc | apply pw_below_drewN | apply below_drew1) | exact HB.out)⟩
  · replace c4 := Bool.eq_false_iff.mpr c4
    subst c4
    have H1 : (some false) = some r := by rw [if_neg (show ¬ (false = true) by decide)] at H; exact H
    clear H
    have H := H1
    clear H1
    obtain rfl := Option.some.inj H
    go_enter Try.func5, Try.ntmps5
    go_wp2_with (first | ((with_reducible refine gate_callee (f := 19) rfl ?_); refine goesL_ (some 7) rfl rfl Try.func19 (by kernel_rfl) rfl #[] rfl (by (try simp only [List.map_toArray, List.map_cons, List.map_nil]); first | done | rfl | (simp only [List.length_drop, List.length_take]; rfl)) ?_; (with_reducible refine (legatelaw04_works.calls k  false _ A3.out).mono ?_); rintro e w23 ⟨rfl, hb⟩; refine ⟨_, rfl, ?_⟩; have n0_ := Aside0.mk (below_step (by repeat (first | (with_reducible first | exact HB.out | apply below_alloc | apply pw_below_drewN | apply below_drew1) | exact HB.out)) hb); clear HB; have HB := n0_; clear n0_; (try clear hb); (try clear hb2); (try clear hk); (try clear hi)))
    go_ret
    exact ⟨by first | rfl | (simp [errW_none, errW_some] <;> rfl) | (simp [*, errW_none, errW_some] <;> rfl), by repeat (first | (with_reducible first | exact HB.out | apply below_alloc | apply pw_below_drewN | apply below_drew1) | exact HB.out)⟩

/-- THE ONE PURE STATEMENT of legatelaw04_AesEncrypts: yours. -/
def legatelaw04_AesEncrypts.Pure : Prop := ∀ (a0 : ByteArray) (a1 : ByteArray), a0.size ≤ 140737488351232 → a1.size ≤ 140737488351232 → ∃ k, legatelaw04_AesEncrypts.f k a0 a1 = some true
theorem legatelaw04_AesEncrypts.walk (P : legatelaw04_AesEncrypts.Pure) (a0 : ByteArray) (a1 : ByteArray) (w : World) (w0 : a0.size ≤ 140737488351232) (w1 : a1.size ≤ 140737488351232) :
    Calls Try.prog 5 #[.string a0, .string a1] w fun e w' => e = .returned (.bool true) ∧ Below w.heap.size w w' := by
  obtain ⟨k, h⟩ := P a0 a1 w0 w1
  refine (legatelaw04_AesEncrypts.calls k a0 a1 true w h).mono ?_
  rintro e w' ⟨rfl, hd⟩
  exact ⟨rfl, hd⟩

/-! ### legatelaw04_AesUnlike: function 6 -/
def legatelaw04_AesUnlike.f (k : Nat) (a0 : ByteArray) (a1 : ByteArray) (a2 : ByteArray) : Option (Bool) := (legatelaw04_works.f k).bind fun t193 => (if t193 = true then ((aes_Encrypt.f a0 a1).bind fun t194 => ((aes_Encrypt.f a0 a2).bind fun t195 => (if (a0.size : Int) = 16 then (if (a1.size : Int) = 16 then (if (a2.size : Int) = 16 then (if (t194.size : Int) = 16 then (some ((t194.toList == t195.toList) == (a1.toList == a2.toList))) else (some false)) else (if t194.toList = ([] : List UInt8) then (some true) else (some ((a1.size : Int) == 16)))) else (if t194.toList = ([] : List UInt8) then (some true) else (some ((a1.size : Int) == 16)))) else (if t194.toList = ([] : List UInt8) then (some true) else (some false))))) else (some false))
set_option maxHeartbeats 8000000 in
set_option maxRecDepth 100000 in
theorem legatelaw04_AesUnlike.calls (k : Nat) (a0 : ByteArray) (a1 : ByteArray) (a2 : ByteArray) (r : Bool) (w : World) (h : legatelaw04_AesUnlike.f k a0 a1 a2 = some r) :
    Calls Try.prog 6 #[.string a0, .string a1, .string a2] w fun e w' => e = .returned (.bool r) ∧ Below w.heap.size w w' := by
  have HB := Aside0.mk (Below.refl w.heap.size w)
  have H : ((legatelaw04_works.f k).bind fun t193 => (if t193 = true then ((aes_Encrypt.f a0 a1).bind fun t194 => ((aes_Encrypt.f a0 a2).bind fun t195 => (if (a0.size : Int) = 16 then (if (a1.size : Int) = 16 then (if (a2.size : Int) = 16 then (if (t194.size : Int) = 16 then (some ((t194.toList == t195.toList) == (a1.toList == a2.toList))) else (some false)) else (if t194.toList = ([] : List UInt8) then (some true) else (some ((a1.size : Int) == 16)))) else (if t194.toList = ([] : List UInt8) then (some true) else (some ((a1.size : Int) == 16)))) else (if t194.toList = ([] : List UInt8) then (some true) else (some false))))) else (some false))) = some r := h
  clear h
  replace H := Option.bind_eq_some_iff.mp H
  obtain ⟨t193, A40, H⟩ := H
  replace H : (if t193 = true then ((aes_Encrypt.f a0 a1).bind fun t194 => ((aes_Encrypt.f a0 a2).bind fun t195 => (if (a0.size : Int) = 16 then (if (a1.size : Int) = 16 then (if (a2.size : Int) = 16 then (if (t194.size : Int) = 16 then (some ((t194.toList == t195.toList) == (a1.toList == a2.toList))) else (some false)) else (if t194.toList = ([] : List UInt8) then (some true) else (some ((a1.size : Int) == 16)))) else (if t194.toList = ([] : List UInt8) then (some true) else (some ((a1.size : Int) == 16)))) else (if t194.toList = ([] : List UInt8) then (some true) else (some false))))) else (some false)) = some r := H
  have A4 := Aside0.mk A40
  clear A40
  by_cases c5 : t193 = true
  · subst c5
    have H1 : ((aes_Encrypt.f a0 a1).bind fun t194 => ((aes_Encrypt.f a0 a2).bind fun t195 => (if (a0.size : Int) = 16 then (if (a1.size : Int) = 16 then (if (a2.size : Int) = 16 then (if (t194.size : Int) = 16 then (some ((t194.toList == t195.toList) == (a1.toList == a2.toList))) else (some false)) else (if t194.toList = ([] : List UInt8) then (some true) else (some ((a1.size : Int) == 16)))) else (if t194.toList = ([] : List UInt8) then (some true) else (some ((a1.size : Int) == 16)))) else (if t194.toList = ([] : List UInt8) then (some true) else (some false))))) = some r := by rw [if_pos rfl] at H; exact H
    clear H
    have H := H1
    clear H1
    replace H := Option.bind_eq_some_iff.mp H
    obtain ⟨t194, A60, H⟩ := H
    replace H : ((aes_Encrypt.f a0 a2).bind fun t195 => (if (a0.size : Int) = 16 then (if (a1.size : Int) = 16 then (if (a2.size : Int) = 16 then (if (t194.size : Int) = 16 then (some ((t194.toList == t195.toList) == (a1.toList == a2.toList))) else (some false)) else (if t194.toList = ([] : List UInt8) then (some true) else (some ((a1.size : Int) == 16)))) else (if t194.toList = ([] : List UInt8) then (some true) else (some ((a1.size : Int) == 16)))) else (if t194.toList = ([] : List UInt8) then (some true) else (some false)))) = some r := H
    have A6 := Aside0.mk A60
    clear A60
    replace H := Option.bind_eq_some_iff.mp H
    obtain ⟨t195, A70, H⟩ := H
    replace H : (if (a0.size : Int) = 16 then (if (a1.size : Int) = 16 then (if (a2.size : Int) = 16 then (if (t194.size : Int) = 16 then (some ((t194.toList == t195.toList) == (a1.toList == a2.toList))) else (some false)) else (if t194.toList = ([] : List UInt8) then (some true) else (some ((a1.size : Int) == 16)))) else (if t194.toList = ([] : List UInt8) then (some true) else (some ((a1.size : Int) == 16)))) else (if t194.toList = ([] : List UInt8) then (some true) else (some false))) = some r := H
    have A7 := Aside0.mk A70
    clear A70
    by_cases c8 : (a0.size : Int) = 16
    · rw [if_pos c8] at H
      have c8b0 : ((a0.size : Int) == 16) = true := beq_iff_eq.mpr c8
      have c8b1 : ((a0.size : Int) != 16) = false := bne_eq_false_iff_eq.mpr c8
      clear c8
      by_cases c9 : (a1.size : Int) = 16
      · rw [if_pos c9] at H
        have c9b0 : ((a1.size : Int) == 16) = true := beq_iff_eq.mpr c9
        have c9b1 : ((a1.size : Int) != 16) = false := bne_eq_false_iff_eq.mpr c9
        clear c9
        by_cases c10 : (a2.size : Int) = 16
        · rw [if_pos c10] at H
          have c10b0 : ((a2.size : Int) == 16) = true := beq_iff_eq.mpr c10
          have c10b1 : ((a2.size : Int) != 16) = false := bne_eq_false_iff_eq.mpr c10
          clear c10
          by_cases c11 : (t194.size : Int) = 16
          · rw [if_pos c11] at H
            have c11b0 : ((t194.size : Int) == 16) = true := beq_iff_eq.mpr c11
            have c11b1 : ((t194.size : Int) != 16) = false := bne_eq_false_iff_eq.mpr c11
            clear c11
            obtain rfl := Option.some.inj H
            go_enter Try.func6, Try.ntmps6
            go_wp2_with (first | ((with_reducible refine gate_callee (f := 19) rfl ?_); refine goesL_ (some 10) rfl rfl Try.func19 (by kernel_rfl) rfl #[] rfl (by (try simp only [List.map_toArray, List.map_cons, List.map_nil]); first | done | rfl | (simp only [List.length_drop, List.length_take]; rfl)) ?_; (with_reducible refine (legatelaw04_works.calls k  true _ A4.out).mono ?_); rintro e w12 ⟨rfl, hb⟩; refine ⟨_, rfl, ?_⟩; have n0_ := Aside0.mk (below_step (by repeat (first | (with_reducible first | exact HB.out | apply below_alloc | apply pw_below_drewN | apply below_drew1) | exact HB.out)) hb); clear HB; have HB := n0_; clear n0_; (try clear hb); (try clear hb2); (try clear hk); (try clear hi)) | ((with_reducible refine gate_callee (f := 25) rfl ?_); refine goesL_ (some 15) rfl rfl Try.func25 (by kernel_rfl) rfl #[.string a0, .string a1] rfl (by (try simp only [List.map_toArray, List.map_cons, List.map_nil]); first | done | rfl | (simp only [List.length_drop, List.length_take]; rfl)) ?_; (with_reducible refine (aes_Encrypt.calls a0 a1 t194 _ A6.out).mono ?_); rintro e w13 ⟨rfl, hb⟩; refine ⟨_, rfl, ?_⟩; have n0_ := Aside0.mk (below_step (by repeat (first | (with_reducible first | exact HB.out | apply below_alloc | apply pw_below_drewN | apply below_drew1) | exact HB.out)) hb); clear HB; have HB := n0_; clear n0_; (try clear hb); (try clear hb2); (try clear hk); (try clear hi)) | ((with_reducible refine gate_callee (f := 25) rfl ?_); refine goesL_ (some 18) rfl rfl Try.func25 (by kernel_rfl) rfl #[.string a0, .string a2] rfl (by (try simp only [List.map_toArray, List.map_cons, List.map_nil]); first | done | rfl | (simp only [List.length_drop, List.length_take]; rfl)) ?_; (with_reducible refine (aes_Encrypt.calls a0 a2 t195 _ A7.out).mono ?_); rintro e w14 ⟨rfl, hb⟩; refine ⟨_, rfl, ?_⟩; have n0_ := Aside0.mk (below_step (by repeat (first | (with_reducible first | exact HB.out | apply below_alloc | apply pw_below_drewN | apply below_drew1) | exact HB.out)) hb); clear HB; have HB := n0_; clear n0_; (try clear hb); (try clear hb2); (try clear hk); (try clear hi)))
            go_ret
            exact ⟨by first | rfl | (simp [errW_none, errW_some] <;> rfl) | (simp [*, errW_none, errW_some] <;> rfl), by repeat (first | (with_reducible first | exact HB.out | apply below_alloc | apply pw_below_drewN | apply below_drew1) | exact HB.out)⟩
          · rw [if_neg c11] at H
            have c11b0 : ((t194.size : Int) == 16) = false := beq_eq_false_iff_ne.mpr c11
            have c11b1 : ((t194.size : Int) != 16) = true := bne_iff_ne.mpr c11
            obtain rfl := Option.some.inj H
            go_enter Try.func6, Try.ntmps6
            go_wp2_with (first | ((with_reducible refine gate_callee (f := 19) rfl ?_); refine goesL_ (some 10) rfl rfl Try.func19 (by kernel_rfl) rfl #[] rfl (by (try simp only [List.map_toArray, List.map_cons, List.map_nil]); first | done | rfl | (simp only [List.length_drop, List.length_take]; rfl)) ?_; (with_reducible refine (legatelaw04_works.calls k  true _ A4.out).mono ?_); rintro e w15 ⟨rfl, hb⟩; refine ⟨_, rfl, ?_⟩; have n0_ := Aside0.mk (below_step (by repeat (first | (with_reducible first | exact HB.out | apply below_alloc | apply pw_below_drewN | apply below_drew1) | exact HB.out)) hb); clear HB; have HB := n0_; clear n0_; (try clear hb); (try clear hb2); (try clear hk); (try clear hi)) | ((with_reducible refine gate_callee (f := 25) rfl ?_); refine goesL_ (some 15) rfl rfl Try.func25 (by kernel_rfl) rfl #[.string a0, .string a1] rfl (by (try simp only [List.map_toArray, List.map_cons, List.map_nil]); first | done | rfl | (simp only [List.length_drop, List.length_take]; rfl)) ?_; (with_reducible refine (aes_Encrypt.calls a0 a1 t194 _ A6.out).mono ?_); rintro e w16 ⟨rfl, hb⟩; refine ⟨_, rfl, ?_⟩; have n0_ := Aside0.mk (below_step (by repeat (first | (with_reducible first | exact HB.out | apply below_alloc | apply pw_below_drewN | apply below_drew1) | exact HB.out)) hb); clear HB; have HB := n0_; clear n0_; (try clear hb); (try clear hb2); (try clear hk); (try clear hi)) | ((with_reducible refine gate_callee (f := 25) rfl ?_); refine goesL_ (some 18) rfl rfl Try.func25 (by kernel_rfl) rfl #[.string a0, .string a2] rfl (by (try simp only [List.map_toArray, List.map_cons, List.map_nil]); first | done | rfl | (simp only [List.length_drop, List.length_take]; rfl)) ?_; (with_reducible refine (aes_Encrypt.calls a0 a2 t195 _ A7.out).mono ?_); rintro e w17 ⟨rfl, hb⟩; refine ⟨_, rfl, ?_⟩; have n0_ := Aside0.mk (below_step (by repeat (first | (with_reducible first | exact HB.out | apply below_alloc | apply pw_below_drewN | apply below_drew1) | exact HB.out)) hb); clear HB; have HB := n0_; clear n0_; (try clear hb); (try clear hb2); (try clear hk); (try clear hi)))
            go_ret
            exact ⟨by first | rfl | (simp [errW_none, errW_some] <;> rfl) | (simp [*, errW_none, errW_some] <;> rfl), by repeat (first | (with_reducible first | exact HB.out | apply below_alloc | apply pw_below_drewN | apply below_drew1) | exact HB.out)⟩
        · rw [if_neg c10] at H
          have c10b0 : ((a2.size : Int) == 16) = false := beq_eq_false_iff_ne.mpr c10
          have c10b1 : ((a2.size : Int) != 16) = true := bne_iff_ne.mpr c10
          by_cases c18 : t194.toList = ([] : List UInt8)
          · rw [if_pos c18] at H
            have c18b0 : (t194.toList == ([] : List UInt8)) = true := beq_iff_eq.mpr c18
            have c18b1 : (t194.toList != ([] : List UInt8)) = false := bne_eq_false_iff_eq.mpr c18
            clear c18
            obtain rfl := Option.some.inj H
            go_enter Try.func6, Try.ntmps6
            go_wp2_with (first | ((with_reducible refine gate_callee (f := 19) rfl ?_); refine goesL_ (some 10) rfl rfl Try.func19 (by kernel_rfl) rfl #[] rfl (by (try simp only [List.map_toArray, List.map_cons, List.map_nil]); first | done | rfl | (simp only [List.length_drop, List.length_take]; rfl)) ?_; (with_reducible refine (legatelaw04_works.calls k  true _ A4.out).mono ?_); rintro e w19 ⟨rfl, hb⟩; refine ⟨_, rfl, ?_⟩; have n0_ := Aside0.mk (below_step (by repeat (first | (with_reducible first | exact HB.out | apply below_alloc | apply pw_below_drewN | apply below_drew1) | exact HB.out)) hb); clear HB; have HB := n0_; clear n0_; (try clear hb); (try clear hb2); (try clear hk); (try clear hi)) | ((with_reducible refine gate_callee (f := 25) rfl ?_); refine goesL_ (some 15) rfl rfl Try.func25 (by kernel_rfl) rfl #[.string a0, .string a1] rfl (by (try simp only [List.map_toArray, List.map_cons, List.map_nil]); first | done | rfl | (simp only [List.length_drop, List.length_take]; rfl)) ?_; (with_reducible refine (aes_Encrypt.calls a0 a1 t194 _ A6.out).mono ?_); rintro e w20 ⟨rfl, hb⟩; refine ⟨_, rfl, ?_⟩; have n0_ := Aside0.mk (below_step (by repeat (first | (with_reducible first | exact HB.out | apply below_alloc | apply pw_below_drewN | apply below_drew1) | exact HB.out)) hb); clear HB; have HB := n0_; clear n0_; (try clear hb); (try clear hb2); (try clear hk); (try clear hi)) | ((with_reducible refine gate_callee (f := 25) rfl ?_); refine goesL_ (some 18) rfl rfl Try.func25 (by kernel_rfl) rfl #[.string a0, .string a2] rfl (by (try simp only [List.map_toArray, List.map_cons, List.map_nil]); first | done | rfl | (simp only [List.length_drop, List.length_take]; rfl)) ?_; (with_reducible refine (aes_Encrypt.calls a0 a2 t195 _ A7.out).mono ?_); rintro e w21 ⟨rfl, hb⟩; refine ⟨_, rfl, ?_⟩; have n0_ := Aside0.mk (below_step (by repeat (first | (with_reducible first | exact HB.out | apply below_alloc | apply pw_below_drewN | apply below_drew1) | exact HB.out)) hb); clear HB; have HB := n0_; clear n0_; (try clear hb); (try clear hb2); (try clear hk); (try clear hi)))
            go_ret
            exact ⟨by first | rfl | (simp [errW_none, errW_some] <;> rfl) | (simp [*, errW_none, errW_some] <;> rfl), by repeat (first | (with_reducible first | exact HB.out | apply below_alloc | apply pw_below_drewN | apply below_drew1) | exact HB.out)⟩
          · rw [if_neg c18] at H
            have c18b0 : (t194.toList == ([] : List UInt8)) = false := beq_eq_false_iff_ne.mpr c18
            have c18b1 : (t194.toList != ([] : List UInt8)) = true := bne_iff_ne.mpr c18
            obtain rfl := Option.some.inj H
            go_enter Try.func6, Try.ntmps6
            go_wp2_with (first | ((with_reducible refine gate_callee (f := 19) rfl ?_); refine goesL_ (some 10) rfl rfl Try.func19 (by kernel_rfl) rfl #[] rfl (by (try simp only [List.map_toArray, List.map_cons, List.map_nil]); first | done | rfl | (simp only [List.length_drop, List.length_take]; rfl)) ?_; (with_reducible refine (legatelaw04_works.calls k  true _ A4.out).mono ?_); rintro e w22 ⟨rfl, hb⟩; refine ⟨_, rfl, ?_⟩; have n0_ := Aside0.mk (below_step (by repeat (first | (with_reducible first | exact HB.out | apply below_alloc | apply pw_below_drewN | apply below_drew1) | exact HB.out)) hb); clear HB; have HB := n0_; clear n0_; (try clear hb); (try clear hb2); (try clear hk); (try clear hi)) | ((with_reducible refine gate_callee (f := 25) rfl ?_); refine goesL_ (some 15) rfl rfl Try.func25 (by kernel_rfl) rfl #[.string a0, .string a1] rfl (by (try simp only [List.map_toArray, List.map_cons, List.map_nil]); first | done | rfl | (simp only [List.length_drop, List.length_take]; rfl)) ?_; (with_reducible refine (aes_Encrypt.calls a0 a1 t194 _ A6.out).mono ?_); rintro e w23 ⟨rfl, hb⟩; refine ⟨_, rfl, ?_⟩; have n0_ := Aside0.mk (below_step (by repeat (first | (with_reducible first | exact HB.out | apply below_alloc | apply pw_below_drewN | apply below_drew1) | exact HB.out)) hb); clear HB; have HB := n0_; clear n0_; (try clear hb); (try clear hb2); (try clear hk); (try clear hi)) | ((with_reducible refine gate_callee (f := 25) rfl ?_); refine goesL_ (some 18) rfl rfl Try.func25 (by kernel_rfl) rfl #[.string a0, .string a2] rfl (by (try simp only [List.map_toArray, List.map_cons, List.map_nil]); first | done | rfl | (simp only [List.length_drop, List.length_take]; rfl)) ?_; (with_reducible refine (aes_Encrypt.calls a0 a2 t195 _ A7.out).mono ?_); rintro e w24 ⟨rfl, hb⟩; refine ⟨_, rfl, ?_⟩; have n0_ := Aside0.mk (below_step (by repeat (first | (with_reducible first | exact HB.out | apply below_alloc | apply pw_below_drewN | apply below_drew1) | exact HB.out)) hb); clear HB; have HB := n0_; clear n0_; (try clear hb); (try clear hb2); (try clear hk); (try clear hi)))
            go_ret
            exact ⟨by first | rfl | (simp [errW_none, errW_some] <;> rfl) | (simp [*, errW_none, errW_some] <;> rfl), by repeat (first | (with_reducible first | exact HB.out | apply below_alloc | apply pw_below_drewN | apply below_drew1) | exact HB.out)⟩
      · rw [if_neg c9] at H
        have c9b0 : ((a1.size : Int) == 16) = false := beq_eq_false_iff_ne.mpr c9
        have c9b1 : ((a1.size : Int) != 16) = true := bne_iff_ne.mpr c9
        by_cases c25 : t194.toList = ([] : List UInt8)
        · rw [if_pos c25] at H
          have c25b0 : (t194.toList == ([] : List UInt8)) = true := beq_iff_eq.mpr c25
          have c25b1 : (t194.toList != ([] : List UInt8)) = false := bne_eq_false_iff_eq.mpr c25
          clear c25
          obtain rfl := Option.some.inj H
          go_enter Try.func6, Try.ntmps6
          go_wp2_with (first | ((with_reducible refine gate_callee (f := 19) rfl ?_); refine goesL_ (some 10) rfl rfl Try.func19 (by kernel_rfl) rfl #[] rfl (by (try simp only [List.map_toArray, List.map_cons, List.map_nil]); first | done | rfl | (simp only [List.length_drop, List.length_take]; rfl)) ?_; (with_reducible refine (legatelaw04_works.calls k  true _ A4.out).mono ?_); rintro e w26 ⟨rfl, hb⟩; refine ⟨_, rfl, ?_⟩; have n0_ := Aside0.mk (below_step (by repeat (first | (with_reducible first | exact HB.out | apply below_alloc | apply pw_below_drewN | apply below_drew1) | exact HB.out)) hb); clear HB; have HB := n0_; clear n0_; (try clear hb); (try clear hb2); (try clear hk); (try clear hi)) | ((with_reducible refine gate_callee (f := 25) rfl ?_); refine goesL_ (some 15) rfl rfl Try.func25 (by kernel_rfl) rfl #[.string a0, .string a1] rfl (by (try simp only [List.map_toArray, List.map_cons, List.map_nil]); first | done | rfl | (simp only [List.length_drop, List.length_take]; rfl)) ?_; (with_reducible refine (aes_Encrypt.calls a0 a1 t194 _ A6.out).mono ?_); rintro e w27 ⟨rfl, hb⟩; refine ⟨_, rfl, ?_⟩; have n0_ := Aside0.mk (below_step (by repeat (first | (with_reducible first | exact HB.out | apply below_alloc | apply pw_below_drewN | apply below_drew1) | exact HB.out)) hb); clear HB; have HB := n0_; clear n0_; (try clear hb); (try clear hb2); (try clear hk); (try clear hi)) | ((with_reducible refine gate_callee (f := 25) rfl ?_); refine goesL_ (some 18) rfl rfl Try.func25 (by kernel_rfl) rfl #[.string a0, .string a2] rfl (by (try simp only [List.map_toArray, List.map_cons, List.map_nil]); first | done | rfl | (simp only [List.length_drop, List.length_take]; rfl)) ?_; (with_reducible refine (aes_Encrypt.calls a0 a2 t195 _ A7.out).mono ?_); rintro e w28 ⟨rfl, hb⟩; refine ⟨_, rfl, ?_⟩; have n0_ := Aside0.mk (below_step (by repeat (first | (with_reducible first | exact HB.out | apply below_alloc | apply pw_below_drewN | apply below_drew1) | exact HB.out)) hb); clear HB; have HB := n0_; clear n0_; (try clear hb); (try clear hb2); (try clear hk); (try clear hi)))
          go_ret
          exact ⟨by first | rfl | (simp [errW_none, errW_some] <;> rfl) | (simp [*, errW_none, errW_some] <;> rfl), by repeat (first | (with_reducible first | exact HB.out | apply below_alloc | apply pw_below_drewN | apply below_drew1) | exact HB.out)⟩
        · rw [if_neg c25] at H
          have c25b0 : (t194.toList == ([] : List UInt8)) = false := beq_eq_false_iff_ne.mpr c25
          have c25b1 : (t194.toList != ([] : List UInt8)) = true := bne_iff_ne.mpr c25
          obtain rfl := Option.some.inj H
          go_enter Try.func6, Try.ntmps6
          go_wp2_with (first | ((with_reducible refine gate_callee (f := 19) rfl ?_); refine goesL_ (some 10) rfl rfl Try.func19 (by kernel_rfl) rfl #[] rfl (by (try simp only [List.map_toArray, List.map_cons, List.map_nil]); first | done | rfl | (simp only [List.length_drop, List.length_take]; rfl)) ?_; (with_reducible refine (legatelaw04_works.calls k  true _ A4.out).mono ?_); rintro e w29 ⟨rfl, hb⟩; refine ⟨_, rfl, ?_⟩; have n0_ := Aside0.mk (below_step (by repeat (first | (with_reducible first | exact HB.out | apply below_alloc | apply pw_below_drewN | apply below_drew1) | exact HB.out)) hb); clear HB; have HB := n0_; clear n0_; (try clear hb); (try clear hb2); (try clear hk); (try clear hi)) | ((with_reducible refine gate_callee (f := 25) rfl ?_); refine goesL_ (some 15) rfl rfl Try.func25 (by kernel_rfl) rfl #[.string a0, .string a1] rfl (by (try simp only [List.map_toArray, List.map_cons, List.map_nil]); first | done | rfl | (simp only [List.length_drop, List.length_take]; rfl)) ?_; (with_reducible refine (aes_Encrypt.calls a0 a1 t194 _ A6.out).mono ?_); rintro e w30 ⟨rfl, hb⟩; refine ⟨_, rfl, ?_⟩; have n0_ := Aside0.mk (below_step (by repeat (first | (with_reducible first | exact HB.out | apply below_alloc | apply pw_below_drewN | apply below_drew1) | exact HB.out)) hb); clear HB; have HB := n0_; clear n0_; (try clear hb); (try clear hb2); (try clear hk); (try clear hi)) | ((with_reducible refine gate_callee (f := 25) rfl ?_); refine goesL_ (some 18) rfl rfl Try.func25 (by kernel_rfl) rfl #[.string a0, .string a2] rfl (by (try simp only [List.map_toArray, List.map_cons, List.map_nil]); first | done | rfl | (simp only [List.length_drop, List.length_take]; rfl)) ?_; (with_reducible refine (aes_Encrypt.calls a0 a2 t195 _ A7.out).mono ?_); rintro e w31 ⟨rfl, hb⟩; refine ⟨_, rfl, ?_⟩; have n0_ := Aside0.mk (below_step (by repeat (first | (with_reducible first | exact HB.out | apply below_alloc | apply pw_below_drewN | apply below_drew1) | exact HB.out)) hb); clear HB; have HB := n0_; clear n0_; (try clear hb); (try clear hb2); (try clear hk); (try clear hi)))
          go_ret
          exact ⟨by first | rfl | (simp [errW_none, errW_some] <;> rfl) | (simp [*, errW_none, errW_some] <;> rfl), by repeat (first | (with_reducible first | exact HB.out | apply below_alloc | apply pw_below_drewN | apply below_drew1) | exact HB.out)⟩
    · rw [if_neg c8] at H
      have c8b0 : ((a0.size : Int) == 16) = false := beq_eq_false_iff_ne.mpr c8
      have c8b1 : ((a0.size : Int) != 16) = true := bne_iff_ne.mpr c8
      by_cases c32 : t194.toList = ([] : List UInt8)
      · rw [if_pos c32] at H
        have c32b0 : (t194.toList == ([] : List UInt8)) = true := beq_iff_eq.mpr c32
        have c32b1 : (t194.toList != ([] : List UInt8)) = false := bne_eq_false_iff_eq.mpr c32
        clear c32
        obtain rfl := Option.some.inj H
        go_enter Try.func6, Try.ntmps6
        go_wp2_with (first | ((with_reducible refine gate_callee (f := 19) rfl ?_); refine goesL_ (some 10) rfl rfl Try.func19 (by kernel_rfl) rfl #[] rfl (by (try simp only [List.map_toArray, List.map_cons, List.map_nil]); first | done | rfl | (simp only [List.length_drop, List.length_take]; rfl)) ?_; (with_reducible refine (legatelaw04_works.calls k  true _ A4.out).mono ?_); rintro e w33 ⟨rfl, hb⟩; refine ⟨_, rfl, ?_⟩; have n0_ := Aside0.mk (below_step (by repeat (first | (with_reducible first | exact HB.out | apply below_alloc | apply pw_below_drewN | apply below_drew1) | exact HB.out)) hb); clear HB; have HB := n0_; clear n0_; (try clear hb); (try clear hb2); (try clear hk); (try clear hi)) | ((with_reducible refine gate_callee (f := 25) rfl ?_); refine goesL_ (some 15) rfl rfl Try.func25 (by kernel_rfl) rfl #[.string a0, .string a1] rfl (by (try simp only [List.map_toArray, List.map_cons, List.map_nil]); first | done | rfl | (simp only [List.length_drop, List.length_take]; rfl)) ?_; (with_reducible refine (aes_Encrypt.calls a0 a1 t194 _ A6.out).mono ?_); rintro e w34 ⟨rfl, hb⟩; refine ⟨_, rfl, ?_⟩; have n0_ := Aside0.mk (below_step (by repeat (first | (with_reducible first | exact HB.out | apply below_alloc | apply pw_below_drewN | apply below_drew1) | exact HB.out)) hb); clear HB; have HB := n0_; clear n0_; (try clear hb); (try clear hb2); (try clear hk); (try clear hi)) | ((with_reducible refine gate_callee (f := 25) rfl ?_); refine goesL_ (some 18) rfl rfl Try.func25 (by kernel_rfl) rfl #[.string a0, .string a2] rfl (by (try simp only [List.map_toArray, List.map_cons, List.map_nil]); first | done | rfl | (simp only [List.length_drop, List.length_take]; rfl)) ?_; (with_reducible refine (aes_Encrypt.calls a0 a2 t195 _ A7.out).mono ?_); rintro e w35 ⟨rfl, hb⟩; refine ⟨_, rfl, ?_⟩; have n0_ := Aside0.mk (below_step (by repeat (first | (with_reducible first | exact HB.out | apply below_alloc | apply pw_below_drewN | apply below_drew1) | exact HB.out)) hb); clear HB; have HB := n0_; clear n0_; (try clear hb); (try clear hb2); (try clear hk); (try clear hi)))
        go_ret
        exact ⟨by first | rfl | (simp [errW_none, errW_some] <;> rfl) | (simp [*, errW_none, errW_some] <;> rfl), by repeat (first | (with_reducible first | exact HB.out | apply below_alloc | apply pw_below_drewN | apply below_drew1) | exact HB.out)⟩
      · rw [if_neg c32] at H
        have c32b0 : (t194.toList == ([] : List UInt8)) = false := beq_eq_false_iff_ne.mpr c32
        have c32b1 : (t194.toList != ([] : List UInt8)) = true := bne_iff_ne.mpr c32
        obtain rfl := Option.some.inj H
        go_enter Try.func6, Try.ntmps6
        go_wp2_with (first | ((with_reducible refine gate_callee (f := 19) rfl ?_); refine goesL_ (some 10) rfl rfl Try.func19 (by kernel_rfl) rfl #[] rfl (by (try simp only [List.map_toArray, List.map_cons, List.map_nil]); first | done | rfl | (simp only [List.length_drop, List.length_take]; rfl)) ?_; (with_reducible refine (legatelaw04_works.calls k  true _ A4.out).mono ?_); rintro e w36 ⟨rfl, hb⟩; refine ⟨_, rfl, ?_⟩; have n0_ := Aside0.mk (below_step (by repeat (first | (with_reducible first | exact HB.out | apply below_alloc | apply pw_below_drewN | apply below_drew1) | exact HB.out)) hb); clear HB; have HB := n0_; clear n0_; (try clear hb); (try clear hb2); (try clear hk); (try clear hi)) | ((with_reducible refine gate_callee (f := 25) rfl ?_); refine goesL_ (some 15) rfl rfl Try.func25 (by kernel_rfl) rfl #[.string a0, .string a1] rfl (by (try simp only [List.map_toArray, List.map_cons, List.map_nil]); first | done | rfl | (simp only [List.length_drop, List.length_take]; rfl)) ?_; (with_reducible refine (aes_Encrypt.calls a0 a1 t194 _ A6.out).mono ?_); rintro e w37 ⟨rfl, hb⟩; refine ⟨_, rfl, ?_⟩; have n0_ := Aside0.mk (below_step (by repeat (first | (with_reducible first | exact HB.out | apply below_alloc | apply pw_below_drewN | apply below_drew1) | exact HB.out)) hb); clear HB; have HB := n0_; clear n0_; (try clear hb); (try clear hb2); (try clear hk); (try clear hi)) | ((with_reducible refine gate_callee (f := 25) rfl ?_); refine goesL_ (some 18) rfl rfl Try.func25 (by kernel_rfl) rfl #[.string a0, .string a2] rfl (by (try simp only [List.map_toArray, List.map_cons, List.map_nil]); first | done | rfl | (simp only [List.length_drop, List.length_take]; rfl)) ?_; (with_reducible refine (aes_Encrypt.calls a0 a2 t195 _ A7.out).mono ?_); rintro e w38 ⟨rfl, hb⟩; refine ⟨_, rfl, ?_⟩; have n0_ := Aside0.mk (below_step (by repeat (first | (with_reducible first | exact HB.out | apply below_alloc | apply pw_below_drewN | apply below_drew1) | exact HB.out)) hb); clear HB; have HB := n0_; clear n0_; (try clear hb); (try clear hb2); (try clear hk); (try clear hi)))
        go_ret
        exact ⟨by first | rfl | (simp [errW_none, errW_some] <;> rfl) | (simp [*, errW_none, errW_some] <;> rfl), by repeat (first | (with_reducible first | exact HB.out | apply below_alloc | apply pw_below_drewN | apply below_drew1) | exact HB.out)⟩
  · replace c5 := Bool.eq_false_iff.mpr c5
    subst c5
    have H1 : (some false) = some r := by rw [if_neg (show ¬ (false = true) by decide)] at H; exact H
    clear H
    have H := H1
    clear H1
    obtain rfl := Option.some.inj H
    go_enter Try.func6, Try.ntmps6
    go_wp2_with (first | ((with_reducible refine gate_callee (f := 19) rfl ?_); refine goesL_ (some 10) rfl rfl Try.func19 (by kernel_rfl) rfl #[] rfl (by (try simp only [List.map_toArray, List.map_cons, List.map_nil]); first | done | rfl | (simp only [List.length_drop, List.length_take]; rfl)) ?_; (with_reducible refine (legatelaw04_works.calls k  false _ A4.out).mono ?_); rintro e w39 ⟨rfl, hb⟩; refine ⟨_, rfl, ?_⟩; have n0_ := Aside0.mk (below_step (by repeat (first | (with_reducible first | exact HB.out | apply below_alloc | apply pw_below_drewN | apply below_drew1) | exact HB.out)) hb); clear HB; have HB := n0_; clear n0_; (try clear hb); (try clear hb2); (try clear hk); (try clear hi)))
    go_ret
    exact ⟨by first | rfl | (simp [errW_none, errW_some] <;> rfl) | (simp [*, errW_none, errW_some] <;> rfl), by repeat (first | (with_reducible first | exact HB.out | apply below_alloc | apply pw_below_drewN | apply below_drew1) | exact HB.out)⟩

/-- THE ONE PURE STATEMENT of legatelaw04_AesUnlike: yours. -/
def legatelaw04_AesUnlike.Pure : Prop := ∀ (a0 : ByteArray) (a1 : ByteArray) (a2 : ByteArray), a0.size ≤ 140737488351232 → a1.size ≤ 140737488351232 → a2.size ≤ 140737488351232 → ∃ k, legatelaw04_AesUnlike.f k a0 a1 a2 = some true
theorem legatelaw04_AesUnlike.walk (P : legatelaw04_AesUnlike.Pure) (a0 : ByteArray) (a1 : ByteArray) (a2 : ByteArray) (w : World) (w0 : a0.size ≤ 140737488351232) (w1 : a1.size ≤ 140737488351232) (w2 : a2.size ≤ 140737488351232) :
    Calls Try.prog 6 #[.string a0, .string a1, .string a2] w fun e w' => e = .returned (.bool true) ∧ Below w.heap.size w w' := by
  obtain ⟨k, h⟩ := P a0 a1 a2 w0 w1 w2
  refine (legatelaw04_AesUnlike.calls k a0 a1 a2 true w h).mono ?_
  rintro e w' ⟨rfl, hd⟩
  exact ⟨rfl, hd⟩

/-! ### legatelaw04_AesKeys: function 7 -/
mutual
def legatelaw04_AesKeys.j0 : Nat → Bool → ByteArray → Bool → Option (Bool)
  | 0, _, _, _ => none
  | k + 1, x3, x4, x29 => if x29 = true then (some false) else (legatelaw04_AesKeys.l0 k x3 x4 1 16)
def legatelaw04_AesKeys.l0 : Nat → Bool → ByteArray → Int → Int → Option (Bool)
  | 0, _, _, _, _ => none
  | k + 1, x3, x4, x5, x6 => if x6 < 176 then (if 0 ≤ (wrap64 (x6 - 4)) then (if (wrap64 (x6 - 4)) < (x4.size : Int) then (if (Int.tmod x6 16) < 4 then (if 0 ≤ (wrap64 ((wrap64 ((wrap64 (x6 - (Int.tmod x6 16))) - 4)) + (Int.tmod (wrap64 (x6 + 1)) 4))) then (if (wrap64 ((wrap64 ((wrap64 (x6 - (Int.tmod x6 16))) - 4)) + (Int.tmod (wrap64 (x6 + 1)) 4))) < (x4.size : Int) then ((aes_Swap.f (bt x4 (wrap64 ((wrap64 ((wrap64 (x6 - (Int.tmod x6 16))) - 4)) + (Int.tmod (wrap64 (x6 + 1)) 4))))).bind fun t198 => (if (Int.tmod x6 16) = 0 then ((aes_Times.f k x5 2).bind fun t199 => (if 0 ≤ x6 then (if x6 < (x4.size : Int) then (if 0 ≤ (wrap64 (x6 - 16)) then (if (wrap64 (x6 - 16)) < (x4.size : Int) then (if (bt x4 x6) = (Go.bits .xor .u8 (bt x4 (wrap64 (x6 - 16))) (Go.bits .xor .u8 t198 x5)) then (legatelaw04_AesKeys.l0 k x3 x4 t199 (wrap64 (x6 + 1))) else (some false)) else (none)) else (none)) else (none)) else (none))) else (if 0 ≤ x6 then (if x6 < (x4.size : Int) then (if 0 ≤ (wrap64 (x6 - 16)) then (if (wrap64 (x6 - 16)) < (x4.size : Int) then (if (bt x4 x6) = (Go.bits .xor .u8 (bt x4 (wrap64 (x6 - 16))) t198) then (legatelaw04_AesKeys.l0 k x3 x4 x5 (wrap64 (x6 + 1))) else (some false)) else (none)) else (none)) else (none)) else (none)))) else (none)) else (none)) else (if 0 ≤ x6 then (if x6 < (x4.size : Int) then (if 0 ≤ (wrap64 (x6 - 16)) then (if (wrap64 (x6 - 16)) < (x4.size : Int) then (if (bt x4 x6) = (Go.bits .xor .u8 (bt x4 (wrap64 (x6 - 16))) (bt x4 (wrap64 (x6 - 4)))) then (legatelaw04_AesKeys.l0 k x3 x4 x5 (wrap64 (x6 + 1))) else (some false)) else (none)) else (none)) else (none)) else (none))) else (none)) else (none)) else (some x3)
end
def legatelaw04_AesKeys.f (k : Nat) (a0 : ByteArray) : Option (Bool) := (legatelaw04_works.f k).bind fun t196 => (if t196 = true then ((aes_Expand.f a0).bind fun t197 => (if (a0.size : Int) = 16 then (if (t197.size : Int) = 176 then (if 0 ≤ 16 then (if 16 ≤ (t197.size : Int) then (legatelaw04_AesKeys.j0 k t196 t197 ((t197.extract 0 16).toList != a0.toList)) else (none)) else (none)) else (legatelaw04_AesKeys.j0 k t196 t197 true)) else (some (t197.toList == ([] : List UInt8))))) else (some false))
set_option maxHeartbeats 8000000 in
set_option maxRecDepth 100000 in
theorem legatelaw04_AesKeys.calls (k : Nat) (a0 : ByteArray) (r : Bool) (w : World) (h : legatelaw04_AesKeys.f k a0 = some r) :
    Calls Try.prog 7 #[.string a0] w fun e w' => e = .returned (.bool r) ∧ Below w.heap.size w w' := by
  have HB := Aside0.mk (Below.refl w.heap.size w)
  have H : ((legatelaw04_works.f k).bind fun t196 => (if t196 = true then ((aes_Expand.f a0).bind fun t197 => (if (a0.size : Int) = 16 then (if (t197.size : Int) = 176 then (if 0 ≤ 16 then (if 16 ≤ (t197.size : Int) then (legatelaw04_AesKeys.j0 k t196 t197 ((t197.extract 0 16).toList != a0.toList)) else (none)) else (none)) else (legatelaw04_AesKeys.j0 k t196 t197 true)) else (some (t197.toList == ([] : List UInt8))))) else (some false))) = some r := h
  clear h
  replace H := Option.bind_eq_some_iff.mp H
  obtain ⟨t196, A20, H⟩ := H
  replace H : (if t196 = true then ((aes_Expand.f a0).bind fun t197 => (if (a0.size : Int) = 16 then (if (t197.size : Int) = 176 then (if 0 ≤ 16 then (if 16 ≤ (t197.size : Int) then (legatelaw04_AesKeys.j0 k t196 t197 ((t197.extract 0 16).toList != a0.toList)) else (none)) else (none)) else (legatelaw04_AesKeys.j0 k t196 t197 true)) else (some (t197.toList == ([] : List UInt8))))) else (some false)) = some r := H
  have A2 := Aside0.mk A20
  clear A20
  by_cases c3 : t196 = true
  · subst c3
    have H1 : ((aes_Expand.f a0).bind fun t197 => (if (a0.size : Int) = 16 then (if (t197.size : Int) = 176 then (if 0 ≤ 16 then (if 16 ≤ (t197.size : Int) then (legatelaw04_AesKeys.j0 k true t197 ((t197.extract 0 16).toList != a0.toList)) else (none)) else (none)) else (legatelaw04_AesKeys.j0 k true t197 true)) else (some (t197.toList == ([] : List UInt8))))) = some r := by rw [if_pos rfl] at H; exact H
    clear H
    have H := H1
    clear H1
    replace H := Option.bind_eq_some_iff.mp H
    obtain ⟨t197, A40, H⟩ := H
    replace H : (if (a0.size : Int) = 16 then (if (t197.size : Int) = 176 then (if 0 ≤ 16 then (if 16 ≤ (t197.size : Int) then (legatelaw04_AesKeys.j0 k true t197 ((t197.extract 0 16).toList != a0.toList)) else (none)) else (none)) else (legatelaw04_AesKeys.j0 k true t197 true)) else (some (t197.toList == ([] : List UInt8)))) = some r := H
    have A4 := Aside0.mk A40
    clear A40
    by_cases c5 : (a0.size : Int) = 16
    · rw [if_pos c5] at H
      have c5b0 : ((a0.size : Int) == 16) = true := beq_iff_eq.mpr c5
      have c5b1 : ((a0.size : Int) != 16) = false := bne_eq_false_iff_eq.mpr c5
      clear c5
      have HC6 := Aside0.mk H
      clear H
      go_enter Try.func7, Try.ntmps7
      go_upto_region 7 with (first | (go_at_call 19; (with_reducible refine (legatelaw04_works.calls k  true _ A2.out).mono ?_); rintro e w7 ⟨rfl, hb⟩; have n0_ := Aside0.mk (below_step (by repeat (first | (with_reducible first | exact HB.out | apply below_alloc | apply pw_below_drewN | apply below_drew1) | exact HB.out)) hb); clear HB; have HB := n0_; clear n0_; (try clear hb); (try clear hb2); (try clear hk); (try clear hi)) | (go_at_call 27; (with_reducible refine (aes_Expand.calls a0 t197 _ A4.out).mono ?_); rintro e w8 ⟨rfl, hb⟩; have n0_ := Aside0.mk (below_step (by repeat (first | (with_reducible first | exact HB.out | apply below_alloc | apply pw_below_drewN | apply below_drew1) | exact HB.out)) hb); clear HB; have HB := n0_; clear n0_; (try clear hb); (try clear hb2); (try clear hk); (try clear hi)))
      repeat (go_quiet (first | (go_at_call 19; (with_reducible refine (legatelaw04_works.calls k  true _ A2.out).mono ?_); rintro e w7 ⟨rfl, hb⟩; have n0_ := Aside0.mk (below_step (by repeat (first | (with_reducible first | exact HB.out | apply below_alloc | apply pw_below_drewN | apply below_drew1) | exact HB.out)) hb); clear HB; have HB := n0_; clear n0_; (try clear hb); (try clear hb2); (try clear hk); (try clear hi)) | (go_at_call 27; (with_reducible refine (aes_Expand.calls a0 t197 _ A4.out).mono ?_); rintro e w8 ⟨rfl, hb⟩; have n0_ := Aside0.mk (below_step (by repeat (first | (with_reducible first | exact HB.out | apply below_alloc | apply pw_below_drewN | apply below_drew1) | exact HB.out)) hb); clear HB; have HB := n0_; clear n0_; (try clear hb); (try clear hb2); (try clear hk); (try clear hi))); go_upto_region 7 with (first | (go_at_call 19; (with_reducible refine (legatelaw04_works.calls k  true _ A2.out).mono ?_); rintro e w7 ⟨rfl, hb⟩; have n0_ := Aside0.mk (below_step (by repeat (first | (with_reducible first | exact HB.out | apply below_alloc | apply pw_below_drewN | apply below_drew1) | exact HB.out)) hb); clear HB; have HB := n0_; clear n0_; (try clear hb); (try clear hb2); (try clear hk); (try clear hi)) | (go_at_call 27; (with_reducible refine (aes_Expand.calls a0 t197 _ A4.out).mono ?_); rintro e w8 ⟨rfl, hb⟩; have n0_ := Aside0.mk (below_step (by repeat (first | (with_reducible first | exact HB.out | apply below_alloc | apply pw_below_drewN | apply below_drew1) | exact HB.out)) hb); clear HB; have HB := n0_; clear n0_; (try clear hb); (try clear hb2); (try clear hk); (try clear hi))))
      (try simp only [Act.put, List.setIfInBounds_toArray, List.set_cons_zero, List.set_cons_succ])
      go_cut [29] (fun v29 wc => ∃ (kq : Nat) (x29_5 : Bool), v29 = .bool x29_5 ∧ Aside0 (legatelaw04_AesKeys.j0 kq true t197 x29_5 = some r) ∧ Aside0 (kq ≤ k) ∧ Aside0 (Below w.heap.size w wc))
      case first =>
        have H := HC6.out
        clear HC6
        by_cases c9 : (t197.size : Int) = 176
        · rw [if_pos c9] at H
          have c9b0 : ((t197.size : Int) == 176) = true := beq_iff_eq.mpr c9
          have c9b1 : ((t197.size : Int) != 176) = false := bne_eq_false_iff_eq.mpr c9
          clear c9
          (first | rw [c9b0] | (simp only [i64_w, i32_w]; rw [c9b0]) | skip)
          by_cases c10 : 0 ≤ 16
          · rw [if_pos c10] at H
            have c10b0 := eq_true c10
            have c10b1 : decide (0 ≤ 16) = true := decide_eq_true c10
            clear c10
            by_cases c11 : 16 ≤ (t197.size : Int)
            · rw [if_pos c11] at H
              have c11b0 := eq_true c11
              have c11b1 : decide (16 ≤ (t197.size : Int)) = true := decide_eq_true c11
              clear c11
              have H' := Aside0.mk H
              clear H
              go_wp2
              repeat (go_quiet (fail); try go_wp2)
              go_meet
              case rel => exact ⟨_, (((t197.extract 0 16).toList != a0.toList)), (by first | rfl | (simp; done) | (simp [*]; done)), H', ⟨by first | omega | exact Nat.le_refl _⟩, ⟨by repeat (first | (with_reducible first | exact HB.out | apply below_alloc | apply pw_below_drewN | apply below_drew1) | exact HB.out)⟩⟩
            · rw [if_neg c11] at H
              exact absurd H (by simp)
          · rw [if_neg c10] at H
            exact absurd H (by simp)
        · rw [if_neg c9] at H
          have c9b0 : ((t197.size : Int) == 176) = false := beq_eq_false_iff_ne.mpr c9
          have c9b1 : ((t197.size : Int) != 176) = true := bne_iff_ne.mpr c9
          (first | rw [c9b0] | (simp only [i64_w, i32_w]; rw [c9b0]) | skip)
          have H' := Aside0.mk H
          clear H
          go_wp2
          repeat (go_quiet (fail); try go_wp2)
          go_meet
          case rel => exact ⟨_, (true), (by first | rfl | (simp; done) | (simp [*]; done)), H', ⟨by first | omega | exact Nat.le_refl _⟩, ⟨by repeat (first | (with_reducible first | exact HB.out | apply below_alloc | apply pw_below_drewN | apply below_drew1) | exact HB.out)⟩⟩
      case rest =>
        clear HC6
        try clear c1
        try clear p2
        try clear c3
        try clear c5
        try clear c5b0
        try clear c5b1
        try clear c7
        try clear c9
        try clear c9b0
        try clear c9b1
        try clear c10
        try clear c10b0
        try clear c10b1
        try clear c11
        try clear c11b0
        try clear c11b1
        obtain ⟨kq, x29_5, rfl, HA, HJ5, HB⟩ := hcut
        cases kq with
        | zero => exact absurd HA.out (by simp [legatelaw04_AesKeys.j0])
        | succ kj5 =>
          have H := HA.out
          clear HA
          simp only [legatelaw04_AesKeys.j0] at H
          by_cases c12 : x29_5 = true
          · subst c12
            have H1 : (some false) = some r := by rw [if_pos rfl] at H; exact H
            clear H
            have H := H1
            clear H1
            obtain rfl := Option.some.inj H
            go_wp2
            repeat (go_quiet (fail); try go_wp2)
            go_ret
            exact ⟨by first | rfl | (simp [errW_none, errW_some] <;> rfl) | (simp [*, errW_none, errW_some] <;> rfl), by repeat (first | (with_reducible first | exact HB.out | apply below_alloc | apply pw_below_drewN | apply below_drew1) | exact HB.out)⟩
          · replace c12 := Bool.eq_false_iff.mpr c12
            subst c12
            have H1 : (legatelaw04_AesKeys.l0 kj5 true t197 1 16) = some r := by rw [if_neg (show ¬ (false = true) by decide)] at H; exact H
            clear H
            have H := H1
            clear H1
            have H' := Aside0.mk H
            clear H
            go_wp2
            repeat (go_quiet (fail); try go_wp2)
            go_loopg [5, 6] kj5 (fun kq v5 v6 w' => ∃ (x5_2 : Int) (x6_2 : Int), v5 = .int .u8 x5_2 ∧ v6 = .int .i64 x6_2 ∧ Aside0 (legatelaw04_AesKeys.l0 kq true t197 x5_2 x6_2 = some r) ∧ Aside0 (kq ≤ kj5) ∧ Aside0 (Below w.heap.size w w'))
            case atStart => exact ⟨(1), (16), (by first | rfl | (simp; done) | (simp [*]; done)), (by first | rfl | (simp; done) | (simp [*]; done)), H', ⟨Nat.le_refl _⟩, ⟨by repeat (first | (with_reducible first | exact HB.out | apply below_alloc | apply pw_below_drewN | apply below_drew1) | exact HB.out)⟩⟩
            case round =>
              clear H'
              try clear c1
              try clear p2
              try clear c3
              try clear c5
              try clear c5b0
              try clear c5b1
              try clear c7
              try clear c9
              try clear c9b0
              try clear c9b1
              try clear c10
              try clear c10b0
              try clear c10b1
              try clear c11
              try clear c11b0
              try clear c11b1
              try clear c12
              try clear p2
              obtain ⟨x5_2, x6_2, rfl, rfl, HA, HK2, HB⟩ := hrel
              cases gk with
              | zero => exact absurd HA.out (by simp [legatelaw04_AesKeys.l0])
              | succ k2 =>
                have H := HA.out
                clear HA
                simp only [legatelaw04_AesKeys.l0] at H
                by_cases c13 : x6_2 < 176
                · rw [if_pos c13] at H
                  have c13b0 : decide (x6_2 < 176) = true := decide_eq_true c13
                  clear c13
                  obtain ⟨ji14, hji14⟩ : ∃ j_ : Int, (wrap64 (x6_2 - 4)) = j_ := ⟨_, rfl⟩
                  replace H : (if 0 ≤ (ji14) then (if (ji14) < (t197.size : Int) then (if (Int.tmod x6_2 16) < 4 then (if 0 ≤ (wrap64 ((wrap64 ((wrap64 (x6_2 - (Int.tmod x6_2 16))) - 4)) + (Int.tmod (wrap64 (x6_2 + 1)) 4))) then (if (wrap64 ((wrap64 ((wrap64 (x6_2 - (Int.tmod x6_2 16))) - 4)) + (Int.tmod (wrap64 (x6_2 + 1)) 4))) < (t197.size : Int) then ((aes_Swap.f (bt t197 (wrap64 ((wrap64 ((wrap64 (x6_2 - (Int.tmod x6_2 16))) - 4)) + (Int.tmod (wrap64 (x6_2 + 1)) 4))))).bind fun t198 => (if (Int.tmod x6_2 16) = 0 then ((aes_Times.f k2 x5_2 2).bind fun t199 => (if 0 ≤ x6_2 then (if x6_2 < (t197.size : Int) then (if 0 ≤ (wrap64 (x6_2 - 16)) then (if (wrap64 (x6_2 - 16)) < (t197.size : Int) then (if (bt t197 x6_2) = (Go.bits .xor .u8 (bt t197 (wrap64 (x6_2 - 16))) (Go.bits .xor .u8 t198 x5_2)) then (legatelaw04_AesKeys.l0 k2 true t197 t199 (wrap64 (x6_2 + 1))) else (some false)) else (none)) else (none)) else (none)) else (none))) else (if 0 ≤ x6_2 then (if x6_2 < (t197.size : Int) then (if 0 ≤ (wrap64 (x6_2 - 16)) then (if (wrap64 (x6_2 - 16)) < (t197.size : Int) then (if (bt t197 x6_2) = (Go.bits .xor .u8 (bt t197 (wrap64 (x6_2 - 16))) t198) then (legatelaw04_AesKeys.l0 k2 true t197 x5_2 (wrap64 (x6_2 + 1))) else (some false)) else (none)) else (none)) else (none)) else (none)))) else (none)) else (none)) else (if 0 ≤ x6_2 then (if x6_2 < (t197.size : Int) then (if 0 ≤ (wrap64 (x6_2 - 16)) then (if (wrap64 (x6_2 - 16)) < (t197.size : Int) then (if (bt t197 x6_2) = (Go.bits .xor .u8 (bt t197 (wrap64 (x6_2 - 16))) (bt t197 (ji14))) then (legatelaw04_AesKeys.l0 k2 true t197 x5_2 (wrap64 (x6_2 + 1))) else (some false)) else (none)) else (none)) else (none)) else (none))) else (none)) else (none)) = some r := by first | (rw [hji14] at H; exact H) | (simp only [hji14] at H ⊢; exact H)
                  have hji14w : (IntKind.i64.wrap (x6_2 - 4)) = ji14 := (i64_w _).trans hji14
                  by_cases c15 : 0 ≤ (ji14)
                  · rw [if_pos c15] at H
                    have c15b0 : decide (0 ≤ (ji14)) = true := decide_eq_true c15
                    clear c15
                    by_cases c16 : (ji14) < (t197.size : Int)
                    · rw [if_pos c16] at H
                      have c16b0 : decide ((ji14) < (t197.size : Int)) = true := decide_eq_true c16
                      clear c16
                      by_cases c18 : (Int.tmod x6_2 16) < 4
                      · rw [if_pos c18] at H
                        have c18b0 : decide ((Int.tmod x6_2 16) < 4) = true := decide_eq_true c18
                        clear c18
                        obtain ⟨ji19, hji19⟩ : ∃ j_ : Int, (wrap64 ((wrap64 ((wrap64 (x6_2 - (Int.tmod x6_2 16))) - 4)) + (Int.tmod (wrap64 (x6_2 + 1)) 4))) = j_ := ⟨_, rfl⟩
                        replace H : (if 0 ≤ (ji19) then (if (ji19) < (t197.size : Int) then ((aes_Swap.f (bt t197 (ji19))).bind fun t198 => (if (Int.tmod x6_2 16) = 0 then ((aes_Times.f k2 x5_2 2).bind fun t199 => (if 0 ≤ x6_2 then (if x6_2 < (t197.size : Int) then (if 0 ≤ (wrap64 (x6_2 - 16)) then (if (wrap64 (x6_2 - 16)) < (t197.size : Int) then (if (bt t197 x6_2) = (Go.bits .xor .u8 (bt t197 (wrap64 (x6_2 - 16))) (Go.bits .xor .u8 t198 x5_2)) then (legatelaw04_AesKeys.l0 k2 true t197 t199 (wrap64 (x6_2 + 1))) else (some false)) else (none)) else (none)) else (none)) else (none))) else (if 0 ≤ x6_2 then (if x6_2 < (t197.size : Int) then (if 0 ≤ (wrap64 (x6_2 - 16)) then (if (wrap64 (x6_2 - 16)) < (t197.size : Int) then (if (bt t197 x6_2) = (Go.bits .xor .u8 (bt t197 (wrap64 (x6_2 - 16))) t198) then (legatelaw04_AesKeys.l0 k2 true t197 x5_2 (wrap64 (x6_2 + 1))) else (some false)) else (none)) else (none)) else (none)) else (none)))) else (none)) else (none)) = some r := by first | (rw [hji19] at H; exact H) | (simp only [hji19] at H ⊢; exact H)
                        have hji19w : (IntKind.i64.wrap ((wrap64 ((wrap64 (x6_2 - (Int.tmod x6_2 16))) - 4)) + (Int.tmod (wrap64 (x6_2 + 1)) 4))) = ji19 := (i64_w _).trans hji19
                        by_cases c20 : 0 ≤ (ji19)
                        · rw [if_pos c20] at H
                          have c20b0 : decide (0 ≤ (ji19)) = true := decide_eq_true c20
                          clear c20
                          by_cases c21 : (ji19) < (t197.size : Int)
                          · rw [if_pos c21] at H
                            have c21b0 : decide ((ji19) < (t197.size : Int)) = true := decide_eq_true c21
                            clear c21
                            replace H := Option.bind_eq_some_iff.mp H
                            obtain ⟨t198, A230, H⟩ := H
                            replace H : (if (Int.tmod x6_2 16) = 0 then ((aes_Times.f k2 x5_2 2).bind fun t199 => (if 0 ≤ x6_2 then (if x6_2 < (t197.size : Int) then (if 0 ≤ (wrap64 (x6_2 - 16)) then (if (wrap64 (x6_2 - 16)) < (t197.size : Int) then (if (bt t197 x6_2) = (Go.bits .xor .u8 (bt t197 (wrap64 (x6_2 - 16))) (Go.bits .xor .u8 t198 x5_2)) then (legatelaw04_AesKeys.l0 k2 true t197 t199 (wrap64 (x6_2 + 1))) else (some false)) else (none)) else (none)) else (none)) else (none))) else (if 0 ≤ x6_2 then (if x6_2 < (t197.size : Int) then (if 0 ≤ (wrap64 (x6_2 - 16)) then (if (wrap64 (x6_2 - 16)) < (t197.size : Int) then (if (bt t197 x6_2) = (Go.bits .xor .u8 (bt t197 (wrap64 (x6_2 - 16))) t198) then (legatelaw04_AesKeys.l0 k2 true t197 x5_2 (wrap64 (x6_2 + 1))) else (some false)) else (none)) else (none)) else (none)) else (none))) = some r := H
                            have A23 := Aside0.mk A230
                            clear A230
                            by_cases c24 : (Int.tmod x6_2 16) = 0
                            · rw [if_pos c24] at H
                              have c24b0 : ((Int.tmod x6_2 16) == 0) = true := beq_iff_eq.mpr c24
                              have c24b1 : ((Int.tmod x6_2 16) != 0) = false := bne_eq_false_iff_eq.mpr c24
                              clear c24
                              replace H := Option.bind_eq_some_iff.mp H
                              obtain ⟨t199, A250, H⟩ := H
                              replace H : (if 0 ≤ x6_2 then (if x6_2 < (t197.size : Int) then (if 0 ≤ (wrap64 (x6_2 - 16)) then (if (wrap64 (x6_2 - 16)) < (t197.size : Int) then (if (bt t197 x6_2) = (Go.bits .xor .u8 (bt t197 (wrap64 (x6_2 - 16))) (Go.bits .xor .u8 t198 x5_2)) then (legatelaw04_AesKeys.l0 k2 true t197 t199 (wrap64 (x6_2 + 1))) else (some false)) else (none)) else (none)) else (none)) else (none)) = some r := H
                              have A25 := Aside0.mk A250
                              clear A250
                              by_cases c26 : 0 ≤ x6_2
                              · rw [if_pos c26] at H
                                have c26b0 : decide (0 ≤ x6_2) = true := decide_eq_true c26
                                clear c26
                                by_cases c27 : x6_2 < (t197.size : Int)
                                · rw [if_pos c27] at H
                                  have c27b0 : decide (x6_2 < (t197.size : Int)) = true := decide_eq_true c27
                                  clear c27
                                  obtain ⟨ji29, hji29⟩ : ∃ j_ : Int, (wrap64 (x6_2 - 16)) = j_ := ⟨_, rfl⟩
                                  replace H : (if 0 ≤ (ji29) then (if (ji29) < (t197.size : Int) then (if (bt t197 x6_2) = (Go.bits .xor .u8 (bt t197 (ji29)) (Go.bits .xor .u8 t198 x5_2)) then (legatelaw04_AesKeys.l0 k2 true t197 t199 (wrap64 (x6_2 + 1))) else (some false)) else (none)) else (none)) = some r := by first | (rw [hji29] at H; exact H) | (simp only [hji29] at H ⊢; exact H)
                                  (try rw [hji29] at A23)
                                  (try rw [hji29] at A25)
                                  have hji29w : (IntKind.i64.wrap (x6_2 - 16)) = ji29 := (i64_w _).trans hji29
                                  by_cases c30 : 0 ≤ (ji29)
                                  · rw [if_pos c30] at H
                                    have c30b0 : decide (0 ≤ (ji29)) = true := decide_eq_true c30
                                    clear c30
                                    by_cases c31 : (ji29) < (t197.size : Int)
                                    · rw [if_pos c31] at H
                                      have c31b0 : decide ((ji29) < (t197.size : Int)) = true := decide_eq_true c31
                                      clear c31
                                      by_cases c33 : (bt t197 x6_2) = (Go.bits .xor .u8 (bt t197 (ji29)) (Go.bits .xor .u8 t198 x5_2))
                                      · rw [if_pos c33] at H
                                        have c33b0 : ((bt t197 x6_2) == (Go.bits .xor .u8 (bt t197 (ji29)) (Go.bits .xor .u8 t198 x5_2))) = true := beq_iff_eq.mpr c33
                                        have c33b1 : ((bt t197 x6_2) != (Go.bits .xor .u8 (bt t197 (ji29)) (Go.bits .xor .u8 t198 x5_2))) = false := bne_eq_false_iff_eq.mpr c33
                                        clear c33
                                        have H' := Aside0.mk H
                                        clear H
                                        have p17 : 0 ≤ ((ji14) : Int) := of_decide_eq_true (by first | (with_reducible assumption) | assumption)
                                        have q17 : (ji14) < (t197.size : Int) := of_decide_eq_true (by first | (with_reducible assumption) | assumption)
                                        have hx17 := bt_at t197 (ji14)
                                        replace p17 := eq_true p17
                                        replace q17 := eq_true q17
                                        have p22 : 0 ≤ ((ji19) : Int) := of_decide_eq_true (by first | (with_reducible assumption) | assumption)
                                        have q22 : (ji19) < (t197.size : Int) := of_decide_eq_true (by first | (with_reducible assumption) | assumption)
                                        have hx22 := bt_at t197 (ji19)
                                        replace p22 := eq_true p22
                                        replace q22 := eq_true q22
                                        go_wp2_with (first | (go_at_call 22; (with_reducible refine (aes_Swap.calls (bt t197 (ji19)) t198 _ A23.out).mono ?_); rintro e w34 ⟨rfl, hb⟩; have n0_ := Aside0.mk (below_step (by repeat (first | (with_reducible first | exact HB.out | apply below_alloc | apply pw_below_drewN | apply below_drew1) | exact HB.out)) hb); clear HB; have HB := n0_; clear n0_; (try clear hb); (try clear hb2); (try clear hk); (try clear hi)) | (go_at_call 20; (with_reducible refine (aes_Times.calls k2 x5_2 2 t199 _ A25.out).mono ?_); rintro e w' ⟨rfl, ⟨nd, rfl⟩⟩; (try first | exact ⟨rfl, _, World.drewN_drewN _ _ _⟩ | exact ⟨rfl, _, Eq.trans (World.drewN_drewN _ _ _) (congrArg (World.drewN _) (Nat.add_assoc _ _ _))⟩); have p28 : 0 ≤ (x6_2 : Int) := of_decide_eq_true (by first | (with_reducible assumption) | assumption); have q28 : x6_2 < (t197.size : Int) := of_decide_eq_true (by first | (with_reducible assumption) | assumption); have hx28 := bt_at t197 x6_2; replace p28 := eq_true p28; replace q28 := eq_true q28; have p32 : 0 ≤ ((ji29) : Int) := of_decide_eq_true (by first | (with_reducible assumption) | assumption); have q32 : (ji29) < (t197.size : Int) := of_decide_eq_true (by first | (with_reducible assumption) | assumption); have hx32 := bt_at t197 (ji29); replace p32 := eq_true p32; replace q32 := eq_true q32))
                                        repeat (go_quiet (first | (go_at_call 22; (with_reducible refine (aes_Swap.calls (bt t197 (ji19)) t198 _ A23.out).mono ?_); rintro e w34 ⟨rfl, hb⟩; have n0_ := Aside0.mk (below_step (by repeat (first | (with_reducible first | exact HB.out | apply below_alloc | apply pw_below_drewN | apply below_drew1) | exact HB.out)) hb); clear HB; have HB := n0_; clear n0_; (try clear hb); (try clear hb2); (try clear hk); (try clear hi)) | (go_at_call 20; (with_reducible refine (aes_Times.calls k2 x5_2 2 t199 _ A25.out).mono ?_); rintro e w' ⟨rfl, ⟨nd, rfl⟩⟩; (try first | exact ⟨rfl, _, World.drewN_drewN _ _ _⟩ | exact ⟨rfl, _, Eq.trans (World.drewN_drewN _ _ _) (congrArg (World.drewN _) (Nat.add_assoc _ _ _))⟩); have p28 : 0 ≤ (x6_2 : Int) := of_decide_eq_true (by first | (with_reducible assumption) | assumption); have q28 : x6_2 < (t197.size : Int) := of_decide_eq_true (by first | (with_reducible assumption) | assumption); have hx28 := bt_at t197 x6_2; replace p28 := eq_true p28; replace q28 := eq_true q28; have p32 : 0 ≤ ((ji29) : Int) := of_decide_eq_true (by first | (with_reducible assumption) | assumption); have q32 : (ji29) < (t197.size : Int) := of_decide_eq_true (by first | (with_reducible assumption) | assumption); have hx32 := bt_at t197 (ji29); replace p32 := eq_true p32; replace q32 := eq_true q32)); try go_wp2_with (first | (go_at_call 22; (with_reducible refine (aes_Swap.calls (bt t197 (ji19)) t198 _ A23.out).mono ?_); rintro e w34 ⟨rfl, hb⟩; have n0_ := Aside0.mk (below_step (by repeat (first | (with_reducible first | exact HB.out | apply below_alloc | apply pw_below_drewN | apply below_drew1) | exact HB.out)) hb); clear HB; have HB := n0_; clear n0_; (try clear hb); (try clear hb2); (try clear hk); (try clear hi)) | (go_at_call 20; (with_reducible refine (aes_Times.calls k2 x5_2 2 t199 _ A25.out).mono ?_); rintro e w' ⟨rfl, ⟨nd, rfl⟩⟩; (try first | exact ⟨rfl, _, World.drewN_drewN _ _ _⟩ | exact ⟨rfl, _, Eq.trans (World.drewN_drewN _ _ _) (congrArg (World.drewN _) (Nat.add_assoc _ _ _))⟩); have p28 : 0 ≤ (x6_2 : Int) := of_decide_eq_true (by first | (with_reducible assumption) | assumption); have q28 : x6_2 < (t197.size : Int) := of_decide_eq_true (by first | (with_reducible assumption) | assumption); have hx28 := bt_at t197 x6_2; replace p28 := eq_true p28; replace q28 := eq_true q28; have p32 : 0 ≤ ((ji29) : Int) := of_decide_eq_true (by first | (with_reducible assumption) | assumption); have q32 : (ji29) < (t197.size : Int) := of_decide_eq_true (by first | (with_reducible assumption) | assumption); have hx32 := bt_at t197 (ji29); replace p32 := eq_true p32; replace q32 := eq_true q32)))
                                        go_roundg k2
                                        case measure => have := HJ5.out; have := HK2.out; omega
                                        case rel => exact ⟨(t199), (wrap64 (x6_2 + 1)), (by first | rfl | (simp; done) | (simp [*]; done)), (by first | rfl | (simp; done) | (simp [*]; done)), H', ⟨by have := HJ5.out; have := HK2.out; omega⟩, ⟨by repeat (first | (with_reducible first | exact HB.out | apply below_alloc | apply pw_below_drewN | apply below_drew1) | exact HB.out)⟩⟩
                                      · rw [if_neg c33] at H
                                        have c33b0 : ((bt t197 x6_2) == (Go.bits .xor .u8 (bt t197 (ji29)) (Go.bits .xor .u8 t198 x5_2))) = false := beq_eq_false_iff_ne.mpr c33
                                        have c33b1 : ((bt t197 x6_2) != (Go.bits .xor .u8 (bt t197 (ji29)) (Go.bits .xor .u8 t198 x5_2))) = true := bne_iff_ne.mpr c33
                                        obtain rfl := Option.some.inj H
                                        have p17 : 0 ≤ ((ji14) : Int) := of_decide_eq_true (by first | (with_reducible assumption) | assumption)
                                        have q17 : (ji14) < (t197.size : Int) := of_decide_eq_true (by first | (with_reducible assumption) | assumption)
                                        have hx17 := bt_at t197 (ji14)
                                        replace p17 := eq_true p17
                                        replace q17 := eq_true q17
                                        have p22 : 0 ≤ ((ji19) : Int) := of_decide_eq_true (by first | (with_reducible assumption) | assumption)
                                        have q22 : (ji19) < (t197.size : Int) := of_decide_eq_true (by first | (with_reducible assumption) | assumption)
                                        have hx22 := bt_at t197 (ji19)
                                        replace p22 := eq_true p22
                                        replace q22 := eq_true q22
                                        go_wp2_with (first | (go_at_call 22; (with_reducible refine (aes_Swap.calls (bt t197 (ji19)) t198 _ A23.out).mono ?_); rintro e w35 ⟨rfl, hb⟩; have n0_ := Aside0.mk (below_step (by repeat (first | (with_reducible first | exact HB.out | apply below_alloc | apply pw_below_drewN | apply below_drew1) | exact HB.out)) hb); clear HB; have HB := n0_; clear n0_; (try clear hb); (try clear hb2); (try clear hk); (try clear hi)) | (go_at_call 20; (with_reducible refine (aes_Times.calls k2 x5_2 2 t199 _ A25.out).mono ?_); rintro e w' ⟨rfl, ⟨nd, rfl⟩⟩; (try first | exact ⟨rfl, _, World.drewN_drewN _ _ _⟩ | exact ⟨rfl, _, Eq.trans (World.drewN_drewN _ _ _) (congrArg (World.drewN _) (Nat.add_assoc _ _ _))⟩); have p28 : 0 ≤ (x6_2 : Int) := of_decide_eq_true (by first | (with_reducible assumption) | assumption); have q28 : x6_2 < (t197.size : Int) := of_decide_eq_true (by first | (with_reducible assumption) | assumption); have hx28 := bt_at t197 x6_2; replace p28 := eq_true p28; replace q28 := eq_true q28; have p32 : 0 ≤ ((ji29) : Int) := of_decide_eq_true (by first | (with_reducible assumption) | assumption); have q32 : (ji29) < (t197.size : Int) := of_decide_eq_true (by first | (with_reducible assumption) | assumption); have hx32 := bt_at t197 (ji29); replace p32 := eq_true p32; replace q32 := eq_true q32))
                                        repeat (go_quiet (first | (go_at_call 22; (with_reducible refine (aes_Swap.calls (bt t197 (ji19)) t198 _ A23.out).mono ?_); rintro e w35 ⟨rfl, hb⟩; have n0_ := Aside0.mk (below_step (by repeat (first | (with_reducible first | exact HB.out | apply below_alloc | apply pw_below_drewN | apply below_drew1) | exact HB.out)) hb); clear HB; have HB := n0_; clear n0_; (try clear hb); (try clear hb2); (try clear hk); (try clear hi)) | (go_at_call 20; (with_reducible refine (aes_Times.calls k2 x5_2 2 t199 _ A25.out).mono ?_); rintro e w' ⟨rfl, ⟨nd, rfl⟩⟩; (try first | exact ⟨rfl, _, World.drewN_drewN _ _ _⟩ | exact ⟨rfl, _, Eq.trans (World.drewN_drewN _ _ _) (congrArg (World.drewN _) (Nat.add_assoc _ _ _))⟩); have p28 : 0 ≤ (x6_2 : Int) := of_decide_eq_true (by first | (with_reducible assumption) | assumption); have q28 : x6_2 < (t197.size : Int) := of_decide_eq_true (by first | (with_reducible assumption) | assumption); have hx28 := bt_at t197 x6_2; replace p28 := eq_true p28; replace q28 := eq_true q28; have p32 : 0 ≤ ((ji29) : Int) := of_decide_eq_true (by first | (with_reducible assumption) | assumption); have q32 : (ji29) < (t197.size : Int) := of_decide_eq_true (by first | (with_reducible assumption) | assumption); have hx32 := bt_at t197 (ji29); replace p32 := eq_true p32; replace q32 := eq_true q32)); try go_wp2_with (first | (go_at_call 22; (with_reducible refine (aes_Swap.calls (bt t197 (ji19)) t198 _ A23.out).mono ?_); rintro e w35 ⟨rfl, hb⟩; have n0_ := Aside0.mk (below_step (by repeat (first | (with_reducible first | exact HB.out | apply below_alloc | apply pw_below_drewN | apply below_drew1) | exact HB.out)) hb); clear HB; have HB := n0_; clear n0_; (try clear hb); (try clear hb2); (try clear hk); (try clear hi)) | (go_at_call 20; (with_reducible refine (aes_Times.calls k2 x5_2 2 t199 _ A25.out).mono ?_); rintro e w' ⟨rfl, ⟨nd, rfl⟩⟩; (try first | exact ⟨rfl, _, World.drewN_drewN _ _ _⟩ | exact ⟨rfl, _, Eq.trans (World.drewN_drewN _ _ _) (congrArg (World.drewN _) (Nat.add_assoc _ _ _))⟩); have p28 : 0 ≤ (x6_2 : Int) := of_decide_eq_true (by first | (with_reducible assumption) | assumption); have q28 : x6_2 < (t197.size : Int) := of_decide_eq_true (by first | (with_reducible assumption) | assumption); have hx28 := bt_at t197 x6_2; replace p28 := eq_true p28; replace q28 := eq_true q28; have p32 : 0 ≤ ((ji29) : Int) := of_decide_eq_true (by first | (with_reducible assumption) | assumption); have q32 : (ji29) < (t197.size : Int) := of_decide_eq_true (by first | (with_reducible assumption) | assumption); have hx32 := bt_at t197 (ji29); replace p32 := eq_true p32; replace q32 := eq_true q32)))
                                        go_ret
                                        exact ⟨by first | rfl | (simp [errW_none, errW_some] <;> rfl) | (simp only [← hji14, ← hji19, ← hji29]; first | rfl | (simp [errW_none, errW_some] <;> rfl)) | (simp [*, errW_none, errW_some] <;> rfl), by repeat (first | (with_reducible first | exact HB.out | apply below_alloc | apply pw_below_drewN | apply below_drew1) | exact HB.out)⟩
                                    · rw [if_neg c31] at H
                                      exact absurd H (by simp)
                                  · rw [if_neg c30] at H
                                    exact absurd H (by simp)
                                · rw [if_neg c27] at H
                                  exact absurd H (by simp)
                              · rw [if_neg c26] at H
                                exact absurd H (by simp)
                            · rw [if_neg c24] at H
                              have c24b0 : ((Int.tmod x6_2 16) == 0) = false := beq_eq_false_iff_ne.mpr c24
                              have c24b1 : ((Int.tmod x6_2 16) != 0) = true := bne_iff_ne.mpr c24
                              by_cases c36 : 0 ≤ x6_2
                              · rw [if_pos c36] at H
                                have c36b0 : decide (0 ≤ x6_2) = true := decide_eq_true c36
                                clear c36
                                by_cases c37 : x6_2 < (t197.size : Int)
                                · rw [if_pos c37] at H
                                  have c37b0 : decide (x6_2 < (t197.size : Int)) = true := decide_eq_true c37
                                  clear c37
                                  obtain ⟨ji39, hji39⟩ : ∃ j_ : Int, (wrap64 (x6_2 - 16)) = j_ := ⟨_, rfl⟩
                                  replace H : (if 0 ≤ (ji39) then (if (ji39) < (t197.size : Int) then (if (bt t197 x6_2) = (Go.bits .xor .u8 (bt t197 (ji39)) t198) then (legatelaw04_AesKeys.l0 k2 true t197 x5_2 (wrap64 (x6_2 + 1))) else (some false)) else (none)) else (none)) = some r := by first | (rw [hji39] at H; exact H) | (simp only [hji39] at H ⊢; exact H)
                                  (try rw [hji39] at A23)
                                  have hji39w : (IntKind.i64.wrap (x6_2 - 16)) = ji39 := (i64_w _).trans hji39
                                  by_cases c40 : 0 ≤ (ji39)
                                  · rw [if_pos c40] at H
                                    have c40b0 : decide (0 ≤ (ji39)) = true := decide_eq_true c40
                                    clear c40
                                    by_cases c41 : (ji39) < (t197.size : Int)
                                    · rw [if_pos c41] at H
                                      have c41b0 : decide ((ji39) < (t197.size : Int)) = true := decide_eq_true c41
                                      clear c41
                                      by_cases c43 : (bt t197 x6_2) = (Go.bits .xor .u8 (bt t197 (ji39)) t198)
                                      · rw [if_pos c43] at H
                                        have c43b0 : ((bt t197 x6_2) == (Go.bits .xor .u8 (bt t197 (ji39)) t198)) = true := beq_iff_eq.mpr c43
                                        have c43b1 : ((bt t197 x6_2) != (Go.bits .xor .u8 (bt t197 (ji39)) t198)) = false := bne_eq_false_iff_eq.mpr c43
                                        clear c43
                                        have H' := Aside0.mk H
                                        clear H
                                        have p17 : 0 ≤ ((ji14) : Int) := of_decide_eq_true (by first | (with_reducible assumption) | assumption)
                                        have q17 : (ji14) < (t197.size : Int) := of_decide_eq_true (by first | (with_reducible assumption) | assumption)
                                        have hx17 := bt_at t197 (ji14)
                                        replace p17 := eq_true p17
                                        replace q17 := eq_true q17
                                        have p22 : 0 ≤ ((ji19) : Int) := of_decide_eq_true (by first | (with_reducible assumption) | assumption)
                                        have q22 : (ji19) < (t197.size : Int) := of_decide_eq_true (by first | (with_reducible assumption) | assumption)
                                        have hx22 := bt_at t197 (ji19)
                                        replace p22 := eq_true p22
                                        replace q22 := eq_true q22
                                        go_wp2_with (first | (go_at_call 22; (with_reducible refine (aes_Swap.calls (bt t197 (ji19)) t198 _ A23.out).mono ?_); rintro e w44 ⟨rfl, hb⟩; have n0_ := Aside0.mk (below_step (by repeat (first | (with_reducible first | exact HB.out | apply below_alloc | apply pw_below_drewN | apply below_drew1) | exact HB.out)) hb); clear HB; have HB := n0_; clear n0_; (try clear hb); (try clear hb2); (try clear hk); (try clear hi); have p38 : 0 ≤ (x6_2 : Int) := of_decide_eq_true (by first | (with_reducible assumption) | assumption); have q38 : x6_2 < (t197.size : Int) := of_decide_eq_true (by first | (with_reducible assumption) | assumption); have hx38 := bt_at t197 x6_2; replace p38 := eq_true p38; replace q38 := eq_true q38; have p42 : 0 ≤ ((ji39) : Int) := of_decide_eq_true (by first | (with_reducible assumption) | assumption); have q42 : (ji39) < (t197.size : Int) := of_decide_eq_true (by first | (with_reducible assumption) | assumption); have hx42 := bt_at t197 (ji39); replace p42 := eq_true p42; replace q42 := eq_true q42))
                                        repeat (go_quiet (first | (go_at_call 22; (with_reducible refine (aes_Swap.calls (bt t197 (ji19)) t198 _ A23.out).mono ?_); rintro e w44 ⟨rfl, hb⟩; have n0_ := Aside0.mk (below_step (by repeat (first | (with_reducible first | exact HB.out | apply below_alloc | apply pw_below_drewN | apply below_drew1) | exact HB.out)) hb); clear HB; have HB := n0_; clear n0_; (try clear hb); (try clear hb2); (try clear hk); (try clear hi); have p38 : 0 ≤ (x6_2 : Int) := of_decide_eq_true (by first | (with_reducible assumption) | assumption); have q38 : x6_2 < (t197.size : Int) := of_decide_eq_true (by first | (with_reducible assumption) | assumption); have hx38 := bt_at t197 x6_2; replace p38 := eq_true p38; replace q38 := eq_true q38; have p42 : 0 ≤ ((ji39) : Int) := of_decide_eq_true (by first | (with_reducible assumption) | assumption); have q42 : (ji39) < (t197.size : Int) := of_decide_eq_true (by first | (with_reducible assumption) | assumption); have hx42 := bt_at t197 (ji39); replace p42 := eq_true p42; replace q42 := eq_true q42)); try go_wp2_with (first | (go_at_call 22; (with_reducible refine (aes_Swap.calls (bt t197 (ji19)) t198 _ A23.out).mono ?_); rintro e w44 ⟨rfl, hb⟩; have n0_ := Aside0.mk (below_step (by repeat (first | (with_reducible first | exact HB.out | apply below_alloc | apply pw_below_drewN | apply below_drew1) | exact HB.out)) hb); clear HB; have HB := n0_; clear n0_; (try clear hb); (try clear hb2); (try clear hk); (try clear hi); have p38 : 0 ≤ (x6_2 : Int) := of_decide_eq_true (by first | (with_reducible assumption) | assumption); have q38 : x6_2 < (t197.size : Int) := of_decide_eq_true (by first | (with_reducible assumption) | assumption); have hx38 := bt_at t197 x6_2; replace p38 := eq_true p38; replace q38 := eq_true q38; have p42 : 0 ≤ ((ji39) : Int) := of_decide_eq_true (by first | (with_reducible assumption) | assumption); have q42 : (ji39) < (t197.size : Int) := of_decide_eq_true (by first | (with_reducible assumption) | assumption); have hx42 := bt_at t197 (ji39); replace p42 := eq_true p42; replace q42 := eq_true q42)))
                                        go_roundg k2
                                        case measure => have := HJ5.out; have := HK2.out; omega
                                        case rel => exact ⟨(x5_2), (wrap64 (x6_2 + 1)), (by first | rfl | (simp; done) | (simp [*]; done)), (by first | rfl | (simp; done) | (simp [*]; done)), H', ⟨by have := HJ5.out; have := HK2.out; omega⟩, ⟨by repeat (first | (with_reducible first | exact HB.out | apply below_alloc | apply pw_below_drewN | apply below_drew1) | exact HB.out)⟩⟩
                                      · rw [if_neg c43] at H
                                        have c43b0 : ((bt t197 x6_2) == (Go.bits .xor .u8 (bt t197 (ji39)) t198)) = false := beq_eq_false_iff_ne.mpr c43
                                        have c43b1 : ((bt t197 x6_2) != (Go.bits .xor .u8 (bt t197 (ji39)) t198)) = true := bne_iff_ne.mpr c43
                                        obtain rfl := Option.some.inj H
                                        have p17 : 0 ≤ ((ji14) : Int) := of_decide_eq_true (by first | (with_reducible assumption) | assumption)
                                        have q17 : (ji14) < (t197.size : Int) := of_decide_eq_true (by first | (with_reducible assumption) | assumption)
                                        have hx17 := bt_at t197 (ji14)
                                        replace p17 := eq_true p17
                                        replace q17 := eq_true q17
                                        have p22 : 0 ≤ ((ji19) : Int) := of_decide_eq_true (by first | (with_reducible assumption) | assumption)
                                        have q22 : (ji19) < (t197.size : Int) := of_decide_eq_true (by first | (with_reducible assumption) | assumption)
                                        have hx22 := bt_at t197 (ji19)
                                        replace p22 := eq_true p22
                                        replace q22 := eq_true q22
                                        go_wp2_with (first | (go_at_call 22; (with_reducible refine (aes_Swap.calls (bt t197 (ji19)) t198 _ A23.out).mono ?_); rintro e w45 ⟨rfl, hb⟩; have n0_ := Aside0.mk (below_step (by repeat (first | (with_reducible first | exact HB.out | apply below_alloc | apply pw_below_drewN | apply below_drew1) | exact HB.out)) hb); clear HB; have HB := n0_; clear n0_; (try clear hb); (try clear hb2); (try clear hk); (try clear hi); have p38 : 0 ≤ (x6_2 : Int) := of_decide_eq_true (by first | (with_reducible assumption) | assumption); have q38 : x6_2 < (t197.size : Int) := of_decide_eq_true (by first | (with_reducible assumption) | assumption); have hx38 := bt_at t197 x6_2; replace p38 := eq_true p38; replace q38 := eq_true q38; have p42 : 0 ≤ ((ji39) : Int) := of_decide_eq_true (by first | (with_reducible assumption) | assumption); have q42 : (ji39) < (t197.size : Int) := of_decide_eq_true (by first | (with_reducible assumption) | assumption); have hx42 := bt_at t197 (ji39); replace p42 := eq_true p42; replace q42 := eq_true q42))
                                        repeat (go_quiet (first | (go_at_call 22; (with_reducible refine (aes_Swap.calls (bt t197 (ji19)) t198 _ A23.out).mono ?_); rintro e w45 ⟨rfl, hb⟩; have n0_ := Aside0.mk (below_step (by repeat (first | (with_reducible first | exact HB.out | apply below_alloc | apply pw_below_drewN | apply below_drew1) | exact HB.out)) hb); clear HB; have HB := n0_; clear n0_; (try clear hb); (try clear hb2); (try clear hk); (try clear hi); have p38 : 0 ≤ (x6_2 : Int) := of_decide_eq_true (by first | (with_reducible assumption) | assumption); have q38 : x6_2 < (t197.size : Int) := of_decide_eq_true (by first | (with_reducible assumption) | assumption); have hx38 := bt_at t197 x6_2; replace p38 := eq_true p38; replace q38 := eq_true q38; have p42 : 0 ≤ ((ji39) : Int) := of_decide_eq_true (by first | (with_reducible assumption) | assumption); have q42 : (ji39) < (t197.size : Int) := of_decide_eq_true (by first | (with_reducible assumption) | assumption); have hx42 := bt_at t197 (ji39); replace p42 := eq_true p42; replace q42 := eq_true q42)); try go_wp2_with (first | (go_at_call 22; (with_reducible refine (aes_Swap.calls (bt t197 (ji19)) t198 _ A23.out).mono ?_); rintro e w45 ⟨rfl, hb⟩; have n0_ := Aside0.mk (below_step (by repeat (first | (with_reducible first | exact HB.out | apply below_alloc | apply pw_below_drewN | apply below_drew1) | exact HB.out)) hb); clear HB; have HB := n0_; clear n0_; (try clear hb); (try clear hb2); (try clear hk); (try clear hi); have p38 : 0 ≤ (x6_2 : Int) := of_decide_eq_true (by first | (with_reducible assumption) | assumption); have q38 : x6_2 < (t197.size : Int) := of_decide_eq_true (by first | (with_reducible assumption) | assumption); have hx38 := bt_at t197 x6_2; replace p38 := eq_true p38; replace q38 := eq_true q38; have p42 : 0 ≤ ((ji39) : Int) := of_decide_eq_true (by first | (with_reducible assumption) | assumption); have q42 : (ji39) < (t197.size : Int) := of_decide_eq_true (by first | (with_reducible assumption) | assumption); have hx42 := bt_at t197 (ji39); replace p42 := eq_true p42; replace q42 := eq_true q42)))
                                        go_ret
                                        exact ⟨by first | rfl | (simp [errW_none, errW_some] <;> rfl) | (simp only [← hji14, ← hji19, ← hji39]; first | rfl | (simp [errW_none, errW_some] <;> rfl)) | (simp [*, errW_none, errW_some] <;> rfl), by repeat (first | (with_reducible first | exact HB.out | apply below_alloc | apply pw_below_drewN | apply below_drew1) | exact HB.out)⟩
                                    · rw [if_neg c41] at H
                                      exact absurd H (by simp)
                                  · rw [if_neg c40] at H
                                    exact absurd H (by simp)
                                · rw [if_neg c37] at H
                                  exact absurd H (by simp)
                              · rw [if_neg c36] at H
                                exact absurd H (by simp)
                          · rw [if_neg c21] at H
                            exact absurd H (by simp)
                        · rw [if_neg c20] at H
                          exact absurd H (by simp)
                      · rw [if_neg c18] at H
                        have c18b0 : decide ((Int.tmod x6_2 16) < 4) = false := decide_eq_false c18
                        clear c18
                        by_cases c46 : 0 ≤ x6_2
                        · rw [if_pos c46] at H
                          have c46b0 : decide (0 ≤ x6_2) = true := decide_eq_true c46
                          clear c46
                          by_cases c47 : x6_2 < (t197.size : Int)
                          · rw [if_pos c47] at H
                            have c47b0 : decide (x6_2 < (t197.size : Int)) = true := decide_eq_true c47
                            clear c47
                            obtain ⟨ji49, hji49⟩ : ∃ j_ : Int, (wrap64 (x6_2 - 16)) = j_ := ⟨_, rfl⟩
                            replace H : (if 0 ≤ (ji49) then (if (ji49) < (t197.size : Int) then (if (bt t197 x6_2) = (Go.bits .xor .u8 (bt t197 (ji49)) (bt t197 (ji14))) then (legatelaw04_AesKeys.l0 k2 true t197 x5_2 (wrap64 (x6_2 + 1))) else (some false)) else (none)) else (none)) = some r := by first | (rw [hji49] at H; exact H) | (simp only [hji49] at H ⊢; exact H)
                            have hji49w : (IntKind.i64.wrap (x6_2 - 16)) = ji49 := (i64_w _).trans hji49
                            by_cases c50 : 0 ≤ (ji49)
                            · rw [if_pos c50] at H
                              have c50b0 : decide (0 ≤ (ji49)) = true := decide_eq_true c50
                              clear c50
                              by_cases c51 : (ji49) < (t197.size : Int)
                              · rw [if_pos c51] at H
                                have c51b0 : decide ((ji49) < (t197.size : Int)) = true := decide_eq_true c51
                                clear c51
                                by_cases c53 : (bt t197 x6_2) = (Go.bits .xor .u8 (bt t197 (ji49)) (bt t197 (ji14)))
                                · rw [if_pos c53] at H
                                  have c53b0 : ((bt t197 x6_2) == (Go.bits .xor .u8 (bt t197 (ji49)) (bt t197 (ji14)))) = true := beq_iff_eq.mpr c53
                                  have c53b1 : ((bt t197 x6_2) != (Go.bits .xor .u8 (bt t197 (ji49)) (bt t197 (ji14)))) = false := bne_eq_false_iff_eq.mpr c53
                                  clear c53
                                  have H' := Aside0.mk H
                                  clear H
                                  have p17 : 0 ≤ ((ji14) : Int) := of_decide_eq_true (by first | (with_reducible assumption) | assumption)
                                  have q17 : (ji14) < (t197.size : Int) := of_decide_eq_true (by first | (with_reducible assumption) | assumption)
                                  have hx17 := bt_at t197 (ji14)
                                  replace p17 := eq_true p17
                                  replace q17 := eq_true q17
                                  have p48 : 0 ≤ (x6_2 : Int) := of_decide_eq_true (by first | (with_reducible assumption) | assumption)
                                  have q48 : x6_2 < (t197.size : Int) := of_decide_eq_true (by first | (with_reducible assumption) | assumption)
                                  have hx48 := bt_at t197 x6_2
                                  replace p48 := eq_true p48
                                  replace q48 := eq_true q48
                                  have p52 : 0 ≤ ((ji49) : Int) := of_decide_eq_true (by first | (with_reducible assumption) | assumption)
                                  have q52 : (ji49) < (t197.size : Int) := of_decide_eq_true (by first | (with_reducible assumption) | assumption)
                                  have hx52 := bt_at t197 (ji49)
                                  replace p52 := eq_true p52
                                  replace q52 := eq_true q52
                                  go_wp2
                                  repeat (go_quiet (fail); try go_wp2)
                                  go_roundg k2
                                  case measure => have := HJ5.out; have := HK2.out; omega
                                  case rel => exact ⟨(x5_2), (wrap64 (x6_2 + 1)), (by first | rfl | (simp; done) | (simp [*]; done)), (by first | rfl | (simp; done) | (simp [*]; done)), H', ⟨by have := HJ5.out; have := HK2.out; omega⟩, ⟨by repeat (first | (with_reducible first | exact HB.out | apply below_alloc | apply pw_below_drewN | apply below_drew1) | exact HB.out)⟩⟩
                                · rw [if_neg c53] at H
                                  have c53b0 : ((bt t197 x6_2) == (Go.bits .xor .u8 (bt t197 (ji49)) (bt t197 (ji14)))) = false := beq_eq_false_iff_ne.mpr c53
                                  have c53b1 : ((bt t197 x6_2) != (Go.bits .xor .u8 (bt t197 (ji49)) (bt t197 (ji14)))) = true := bne_iff_ne.mpr c53
                                  obtain rfl := Option.some.inj H
                                  have p17 : 0 ≤ ((ji14) : Int) := of_decide_eq_true (by first | (with_reducible assumption) | assumption)
                                  have q17 : (ji14) < (t197.size : Int) := of_decide_eq_true (by first | (with_reducible assumption) | assumption)
                                  have hx17 := bt_at t197 (ji14)
                                  replace p17 := eq_true p17
                                  replace q17 := eq_true q17
                                  have p48 : 0 ≤ (x6_2 : Int) := of_decide_eq_true (by first | (with_reducible assumption) | assumption)
                                  have q48 : x6_2 < (t197.size : Int) := of_decide_eq_true (by first | (with_reducible assumption) | assumption)
                                  have hx48 := bt_at t197 x6_2
                                  replace p48 := eq_true p48
                                  replace q48 := eq_true q48
                                  have p52 : 0 ≤ ((ji49) : Int) := of_decide_eq_true (by first | (with_reducible assumption) | assumption)
                                  have q52 : (ji49) < (t197.size : Int) := of_decide_eq_true (by first | (with_reducible assumption) | assumption)
                                  have hx52 := bt_at t197 (ji49)
                                  replace p52 := eq_true p52
                                  replace q52 := eq_true q52
                                  go_wp2
                                  repeat (go_quiet (fail); try go_wp2)
                                  go_ret
                                  exact ⟨by first | rfl | (simp [errW_none, errW_some] <;> rfl) | (simp only [← hji14, ← hji49]; first | rfl | (simp [errW_none, errW_some] <;> rfl)) | (simp [*, errW_none, errW_some] <;> rfl), by repeat (first | (with_reducible first | exact HB.out | apply below_alloc | apply pw_below_drewN | apply below_drew1) | exact HB.out)⟩
                              · rw [if_neg c51] at H
                                exact absurd H (by simp)
                            · rw [if_neg c50] at H
                              exact absurd H (by simp)
                          · rw [if_neg c47] at H
                            exact absurd H (by simp)
                        · rw [if_neg c46] at H
                          exact absurd H (by simp)
                    · rw [if_neg c16] at H
                      exact absurd H (by simp)
                  · rw [if_neg c15] at H
                    exact absurd H (by simp)
                · rw [if_neg c13] at H
                  have c13b0 : decide (x6_2 < 176) = false := decide_eq_false c13
                  clear c13
                  obtain rfl := Option.some.inj H
                  go_wp2
                  repeat (go_quiet (fail); try go_wp2)
                  go_ret
                  exact ⟨by first | rfl | (simp [errW_none, errW_some] <;> rfl) | (simp [*, errW_none, errW_some] <;> rfl), by repeat (first | (with_reducible first | exact HB.out | apply below_alloc | apply pw_below_drewN | apply below_drew1) | exact HB.out)⟩
    · rw [if_neg c5] at H
      have c5b0 : ((a0.size : Int) == 16) = false := beq_eq_false_iff_ne.mpr c5
      have c5b1 : ((a0.size : Int) != 16) = true := bne_iff_ne.mpr c5
      obtain rfl := Option.some.inj H
      go_enter Try.func7, Try.ntmps7
      go_wp2_with (first | (go_at_call 19; (with_reducible refine (legatelaw04_works.calls k  true _ A2.out).mono ?_); rintro e w54 ⟨rfl, hb⟩; have n0_ := Aside0.mk (below_step (by repeat (first | (with_reducible first | exact HB.out | apply below_alloc | apply pw_below_drewN | apply below_drew1) | exact HB.out)) hb); clear HB; have HB := n0_; clear n0_; (try clear hb); (try clear hb2); (try clear hk); (try clear hi)) | (go_at_call 27; (with_reducible refine (aes_Expand.calls a0 t197 _ A4.out).mono ?_); rintro e w55 ⟨rfl, hb⟩; have n0_ := Aside0.mk (below_step (by repeat (first | (with_reducible first | exact HB.out | apply below_alloc | apply pw_below_drewN | apply below_drew1) | exact HB.out)) hb); clear HB; have HB := n0_; clear n0_; (try clear hb); (try clear hb2); (try clear hk); (try clear hi)))
      repeat (go_quiet (first | (go_at_call 19; (with_reducible refine (legatelaw04_works.calls k  true _ A2.out).mono ?_); rintro e w54 ⟨rfl, hb⟩; have n0_ := Aside0.mk (below_step (by repeat (first | (with_reducible first | exact HB.out | apply below_alloc | apply pw_below_drewN | apply below_drew1) | exact HB.out)) hb); clear HB; have HB := n0_; clear n0_; (try clear hb); (try clear hb2); (try clear hk); (try clear hi)) | (go_at_call 27; (with_reducible refine (aes_Expand.calls a0 t197 _ A4.out).mono ?_); rintro e w55 ⟨rfl, hb⟩; have n0_ := Aside0.mk (below_step (by repeat (first | (with_reducible first | exact HB.out | apply below_alloc | apply pw_below_drewN | apply below_drew1) | exact HB.out)) hb); clear HB; have HB := n0_; clear n0_; (try clear hb); (try clear hb2); (try clear hk); (try clear hi))); try go_wp2_with (first | (go_at_call 19; (with_reducible refine (legatelaw04_works.calls k  true _ A2.out).mono ?_); rintro e w54 ⟨rfl, hb⟩; have n0_ := Aside0.mk (below_step (by repeat (first | (with_reducible first | exact HB.out | apply below_alloc | apply pw_below_drewN | apply below_drew1) | exact HB.out)) hb); clear HB; have HB := n0_; clear n0_; (try clear hb); (try clear hb2); (try clear hk); (try clear hi)) | (go_at_call 27; (with_reducible refine (aes_Expand.calls a0 t197 _ A4.out).mono ?_); rintro e w55 ⟨rfl, hb⟩; have n0_ := Aside0.mk (below_step (by repeat (first | (with_reducible first | exact HB.out | apply below_alloc | apply pw_below_drewN | apply below_drew1) | exact HB.out)) hb); clear HB; have HB := n0_; clear n0_; (try clear hb); (try clear hb2); (try clear hk); (try clear hi))))
      go_ret
      exact ⟨by first | rfl | (simp [errW_none, errW_some] <;> rfl) | (simp [*, errW_none, errW_some] <;> rfl), by repeat (first | (with_reducible first | exact HB.out | apply below_alloc | apply pw_below_drewN | apply below_drew1) | exact HB.out)⟩
  · replace c3 := Bool.eq_false_iff.mpr c3
    subst c3
    have H1 : (some false) = some r := by rw [if_neg (show ¬ (false = true) by decide)] at H; exact H
    clear H
    have H := H1
    clear H1
    obtain rfl := Option.some.inj H
    go_enter Try.func7, Try.ntmps7
    go_wp2_with (first | (go_at_call 19; (with_reducible refine (legatelaw04_works.calls k  false _ A2.out).mono ?_); rintro e w56 ⟨rfl, hb⟩; have n0_ := Aside0.mk (below_step (by repeat (first | (with_reducible first | exact HB.out | apply below_alloc | apply pw_below_drewN | apply below_drew1) | exact HB.out)) hb); clear HB; have HB := n0_; clear n0_; (try clear hb); (try clear hb2); (try clear hk); (try clear hi)))
    repeat (go_quiet (first | (go_at_call 19; (with_reducible refine (legatelaw04_works.calls k  false _ A2.out).mono ?_); rintro e w56 ⟨rfl, hb⟩; have n0_ := Aside0.mk (below_step (by repeat (first | (with_reducible first | exact HB.out | apply below_alloc | apply pw_below_drewN | apply below_drew1) | exact HB.out)) hb); clear HB; have HB := n0_; clear n0_; (try clear hb); (try clear hb2); (try clear hk); (try clear hi))); try go_wp2_with (first | (go_at_call 19; (with_reducible refine (legatelaw04_works.calls k  false _ A2.out).mono ?_); rintro e w56 ⟨rfl, hb⟩; have n0_ := Aside0.mk (below_step (by repeat (first | (with_reducible first | exact HB.out | apply below_alloc | apply pw_below_drewN | apply below_drew1) | exact HB.out)) hb); clear HB; have HB := n0_; clear n0_; (try clear hb); (try clear hb2); (try clear hk); (try clear hi))))
    go_ret
    exact ⟨by first | rfl | (simp [errW_none, errW_some] <;> rfl) | (simp [*, errW_none, errW_some] <;> rfl), by repeat (first | (with_reducible first | exact HB.out | apply below_alloc | apply pw_below_drewN | apply below_drew1) | exact HB.out)⟩

/-- THE ONE PURE STATEMENT of legatelaw04_AesKeys: yours. -/
def legatelaw04_AesKeys.Pure : Prop := ∀ (a0 : ByteArray), a0.size ≤ 140737488351232 → ∃ k, legatelaw04_AesKeys.f k a0 = some true
theorem legatelaw04_AesKeys.walk (P : legatelaw04_AesKeys.Pure) (a0 : ByteArray) (w : World) (w0 : a0.size ≤ 140737488351232) :
    Calls Try.prog 7 #[.string a0] w fun e w' => e = .returned (.bool true) ∧ Below w.heap.size w w' := by
  obtain ⟨k, h⟩ := P a0 w0
  refine (legatelaw04_AesKeys.calls k a0 true w h).mono ?_
  rintro e w' ⟨rfl, hd⟩
  exact ⟨rfl, hd⟩

end Go.Proofs.Ytkgijkfcmbpgpaa.PAll
