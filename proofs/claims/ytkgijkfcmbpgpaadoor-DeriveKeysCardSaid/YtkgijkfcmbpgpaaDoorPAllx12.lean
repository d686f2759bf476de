-- written by wip/printx.py, a program of this session, over the kit's print
import Derived.Test.YtkgijkfcmbpgpaaDoorGWorld
import Derived.Test.YtkgijkfcmbpgpaaDoorGSha
import Derived.Test.YtkgijkfcmbpgpaaDoorGHmac
import Derived.Test.YtkgijkfcmbpgpaaDoorGDerive
import Derived.Test.YtkgijkfcmbpgpaaDoorPAllx0
import Derived.Test.YtkgijkfcmbpgpaaDoorPAllx9
namespace Go.Proofs.YtkgijkfcmbpgpaaDoor.PAll
open Go.RowKit Go.Proofs.YtkgijkfcmbpgpaaDoorW.PrintWords Go.Proofs.YtkgijkfcmbpgpaaDoorW.PrintLast Go.Proofs.YtkgijkfcmbpgpaaDoorW.PrintMore
open Go.Proofs.YtkgijkfcmbpgpaaDoor.Giv
attribute [local go_sem] max2_int min2_int max_two min_two max_three min_three max_four min_four   -- for this text's walks alone
set_option linter.unusedVariables false
set_option linter.unusedSimpArgs false

/-! ### legatelaw03_HmacEqual: function 11 -/
/-! ### legatelaw03_HmacKeys: function 12 -/
/-! ### legatelaw03_HmacSums: function 13 -/
/-! ### derive_Key: function 41 -/
def derive_Key.f (a0 : ByteArray) (a1 : Int) (a2 : ByteArray) : Option (ByteArray) := (derive_text.f a2 (⟨#[]⟩ : ByteArray) (([a1] : List Int))).bind fun t328 => ((hmac_Mac.f a0 t328).bind fun t329 => (some t329))
set_option maxHeartbeats 8000000 in
set_option maxRecDepth 100000 in
theorem derive_Key.calls (a0 : ByteArray) (a1 : Int) (a2 : ByteArray) (r : ByteArray) (w : World) {gw : GW w} (h : derive_Key.f a0 a1 a2 = some r) :
    Calls Tryd.prog 41 #[.string a0, .int .i64 a1, .string a2] w fun e w' => e = .returned (.string r) ∧ Below w.heap.size w w' := by
  have HG := Aside0.mk gw
  clear gw
  have HB := Aside0.mk (Below.refl w.heap.size w)
  have H : ((derive_text.f a2 (⟨#[]⟩ : ByteArray) (([a1] : List Int))).bind fun t328 => ((hmac_Mac.f a0 t328).bind fun t329 => (some t329))) = some r := h
  clear h
  obtain ⟨y325, hy325⟩ : ∃ y_ : List Int, y_ = (([a1] : List Int)) := ⟨_, rfl⟩
  replace H : ((derive_text.f a2 (⟨#[]⟩ : ByteArray) y325).bind fun t328 => ((hmac_Mac.f a0 t328).bind fun t329 => (some t329))) = some r := by first | (rw [hy325]; with_reducible exact H) | (have H2_ := (Option.bind_some _ _).symm.trans H; rw [hy325]; with_reducible exact H2_) | (have H2_ := (Option.bind_some _ _).symm.trans H; with_reducible exact H2_) | with_reducible exact H | (rw [hy325]; exact H) | exact H
  have Ny325 := Aside0.mk hy325
  clear hy325
  replace H := Option.bind_eq_some_iff.mp H
  obtain ⟨t328, A40, H⟩ := H
  replace H : ((hmac_Mac.f a0 t328).bind fun t329 => (some t329)) = some r := H
  have A4 := Aside0.mk A40
  clear A40
  replace H := Option.bind_eq_some_iff.mp H
  obtain ⟨t329, A50, H⟩ := H
  replace H : (some t329) = some r := H
  have A5 := Aside0.mk A50
  clear A50
  obtain rfl := Option.some.inj H
  go_enter Tryd.func41, Tryd.ntmps41
  go_wp2_with (first | ((with_reducible refine gate_dst (N := 10) rfl ?_); refine Kd.R_lit (Kd.int .i64) _ 3 ?hg (N := 10) ?hd (xs := ([a1] : List Int)) (inner := [.int .i64 a1]) (ok := fun _ => True) (okp := fun _ => True) ?hr ?hp (fun _ hk => hk) trivial (Below.refl _ _) (Nat.le_refl _) (by simp) ?_; (case hd => rfl); (case hg => rfl); (case hr => first | (go_simp; done) | (go_simp; rfl)); (case hp => exact (Reps.one (show Kd.M (Kd.int .i64) _ _ _ a1 [.int .i64 a1] from rfl) (Reps.none _ _))); intro v326 w6 ho7 hb hg_ hnew_; clear hg_ hnew_; (first | rw [← Ny325.out] at ho7 | (simp only [Int.reduceToNat] at ho7; rw [← Ny325.out] at ho7)); have n0_ := Aside0.mk (Kd.R_lower ho7 (below_size (by repeat (first | (with_reducible first | exact HB.out | apply below_alloc | apply pw_below_drewN | apply below_drew1) | exact HB.out)))); have n1_ := Aside0.mk (below_step (by repeat (first | (with_reducible first | exact HB.out | apply below_alloc | apply pw_below_drewN | apply below_drew1) | exact HB.out)) hb); clear HB; have HO327 := n0_; have HB := n1_; clear n0_ n1_; clear hb ho7; obtain ⟨Ao8, co8, eo8⟩ := Kd.R_slice HO327.out; subst eo8) | ((with_reducible refine gate_callee (f := 71) rfl ?_); refine goesL_ (some 11) rfl rfl Tryd.func71 (by kernel_rfl) rfl #[.string a2, .string (⟨#[]⟩ : ByteArray), .slice Ao8 y325.length co8] rfl (by (try simp only [List.map_toArray, List.map_cons, List.map_nil]); first | done | rfl | (simp only [List.length_drop, List.length_take]; rfl)) ?_; (with_reducible refine (derive_text.calls a2 (⟨#[]⟩ : ByteArray) _ _ y325 t328 _ ?side1 ?side2 A4.out).mono ?_); (case side1 => repeat (first | exact (Kd.R_reads' HO327.out).2.2 | (with_reducible refine Kd.C_alloc ?_ _) | (with_reducible refine Kd.C_drewN ?_ _) | (with_reducible refine Kd.C_drew ?_))); (case side2 => exact (Kd.R_reads' HO327.out).2.1); rintro e w9 ⟨rfl, hb⟩; refine ⟨_, rfl, ?_⟩; have n0_ := Aside0.mk (Kd.R_below (by (with_reducible repeat (first | apply Kd.R_alloc | apply Kd.R_drewN | apply Kd.R_drew)); exact HO327.out) hb); have n1_ := Aside0.mk (below_step (by repeat (first | (with_reducible first | exact HB.out | apply below_alloc | apply pw_below_drewN | apply below_drew1) | exact HB.out)) hb); clear HO327; clear HB; have HO327 := n0_; have HB := n1_; clear n0_ n1_; (try clear hb); (try clear hb2); (try clear hk); (try clear hi)) | ((with_reducible refine gate_callee (f := 31) rfl ?_); refine goesL_ (some 12) rfl rfl Tryd.func31 (by kernel_rfl) rfl #[.string a0, .string t328] rfl (by (try simp only [List.map_toArray, List.map_cons, List.map_nil]); first | done | rfl | (simp only [List.length_drop, List.length_take]; rfl)) ?_; (with_reducible refine (hmac_Mac.calls (gw := ?sideG) a0 t328 t329 _ A5.out).mono ?_); (case sideG => exact GW.below HG.out (by repeat (first | (with_reducible first | exact HB.out | apply below_alloc | apply pw_below_drewN | apply below_drew1) | exact HB.out))); rintro e w10 ⟨rfl, hb⟩; refine ⟨_, rfl, ?_⟩; have n0_ := Aside0.mk (Kd.R_below (by (with_reducible repeat (first | apply Kd.R_alloc | apply Kd.R_drewN | apply Kd.R_drew)); exact HO327.out) hb); have n1_ := Aside0.mk (below_step (by repeat (first | (with_reducible first | exact HB.out | apply below_alloc | apply pw_below_drewN | apply below_drew1) | exact HB.out)) hb); clear HO327; clear HB; have HO327 := n0_; have HB := n1_; clear n0_ n1_; (try clear hb); (try clear hb2); (try clear hk); (try clear hi)))
  go_ret
  exact ⟨by first | rfl | (simp [errW_none, errW_some] <;> rfl) | (simp [*, errW_none, errW_some] <;> rfl), by repeat (first | (with_reducible first | exact HB.out | apply below_alloc | apply pw_below_drewN | apply below_drew1) | exact HB.out)⟩

/-! ### derive_Sum: function 32 -/
def derive_Sum.f (a0 : ByteArray) (a1 : Int) : Option (ByteArray) := (derive_Key.f a0 a1 (⟨#[115, 117, 109]⟩ : ByteArray)).bind fun t330 => (some t330)
set_option maxHeartbeats 8000000 in
set_option maxRecDepth 100000 in
theorem derive_Sum.calls (a0 : ByteArray) (a1 : Int) (r : ByteArray) (w : World) {gw : GW w} (h : derive_Sum.f a0 a1 = some r) :
    Calls Tryd.prog 32 #[.string a0, .int .i64 a1] w fun e w' => e = .returned (.string r) ∧ Below w.heap.size w w' := by
  have HG := Aside0.mk gw
  clear gw
  have HB := Aside0.mk (Below.refl w.heap.size w)
  have H : ((derive_Key.f a0 a1 (⟨#[115, 117, 109]⟩ : ByteArray)).bind fun t330 => (some t330)) = some r := h
  clear h
  replace H := Option.bind_eq_some_iff.mp H
  obtain ⟨t330, A30, H⟩ := H
  replace H : (some t330) = some r := H
  have A3 := Aside0.mk A30
  clear A30
  obtain rfl := Option.some.inj H
  go_enter Tryd.func32, Tryd.ntmps32
  go_wp2_with (first | ((with_reducible refine gate_callee (f := 41) rfl ?_); refine goesL_ (some 7) rfl rfl Tryd.func41 (by kernel_rfl) rfl #[.string a0, .int .i64 a1, .string (⟨#[115, 117, 109]⟩ : ByteArray)] rfl (by (try simp only [List.map_toArray, List.map_cons, List.map_nil]); first | done | rfl | (simp only [List.length_drop, List.length_take]; rfl)) ?_; (with_reducible refine (derive_Key.calls (gw := ?sideG) a0 a1 (⟨#[115, 117, 109]⟩ : ByteArray) t330 _ A3.out).mono ?_); (case sideG => exact GW.below HG.out (by repeat (first | (with_reducible first | exact HB.out | apply below_alloc | apply pw_below_drewN | apply below_drew1) | exact HB.out))); rintro e w4 ⟨rfl, hb⟩; refine ⟨_, rfl, ?_⟩; have n0_ := Aside0.mk (below_step (by repeat (first | (with_reducible first | exact HB.out | apply below_alloc | apply pw_below_drewN | apply below_drew1) | exact HB.out)) hb); clear HB; have HB := n0_; clear n0_; (try clear hb); (try clear hb2); (try clear hk); (try clear hi)))
  go_ret
  exact ⟨by first | rfl | (simp [errW_none, errW_some] <;> rfl) | (simp [*, errW_none, errW_some] <;> rfl), by repeat (first | (with_reducible first | exact HB.out | apply below_alloc | apply pw_below_drewN | apply below_drew1) | exact HB.out)⟩

end Go.Proofs.YtkgijkfcmbpgpaaDoor.PAll
