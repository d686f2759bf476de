/- Package aes: Swap and Expand. -/
import Derived.Test.YtkgijkfcmbpgpaaGAes5
namespace Go.Proofs.Ytkgijkfcmbpgpaa.Giv
open Go.RowKit Go.Proofs.YtkgijkfcmbpgpaaW.PrintWords Go.Proofs.YtkgijkfcmbpgpaaW.PrintLast Go.Proofs.YtkgijkfcmbpgpaaW.PrintMore
set_option linter.unusedVariables false
theorem run_index_u8 {P : Program} {T : TypeId} {q : IntKind} {l : List Int} {n : Nat} {e : TypeId} (hu : P.underlying T = some (.array n e)) (hn : l.length = n)
    (ha : ∀ w, (isAgg e).run P w = .ok false w) (hs : ∀ w, (sizeOf e).run P w = .ok 1 w) (i : Nat) (hi : i < l.length) (w : World) :
    (Instr.index T (.agg (AK q l)) (.int .u8 i)).run P w = .ok (.int q (l.getD i 0)) w := by
  have h1 : (0 : Int) ≤ (i : Int) ∧ (i : Int) < (n : Int) := ⟨by omega, by omega⟩
  unfold Instr.index
  simp [Sem.run_bind, asIntOf, run_underlying hu, h1, hs, part, ha, AK_get q l i hi]
  all_goals omega
def aes_Swap.f (a0 : Int) : Option Int := if 0 ≤ a0 ∧ a0 < 256 then some (swapsL.getD a0.toNat 0) else none
set_option maxRecDepth 100000 in
theorem aes_Swap.calls (a0 : Int) (r : Int) (w : World) (h : aes_Swap.f a0 = some r) :
    Calls Try.prog 22 #[.int .u8 a0] w fun e w' => e = .returned (.int .u8 r) ∧ Below w.heap.size w w' := by
  unfold aes_Swap.f at h
  by_cases hc : 0 ≤ a0 ∧ a0 < 256
  · rw [if_pos hc] at h
    obtain ⟨n, hn⟩ : ∃ n : Nat, a0 = n := ⟨a0.toNat, by omega⟩
    subst hn
    have HR := Aside0.mk (Option.some.inj h)
    clear h
    have hidx := run_index_u8 (P := Try.prog) (T := 59) (q := .u8) (l := swapsL) Try.underlying59 swapsL_len (e := 5) (fun _ => by kernel_rfl) (fun _ => by kernel_rfl) n (by rw [swapsL_len]; omega)
    rw [show swapsL.getD n 0 = r from HR.out] at hidx
    clear hc
    obtain ⟨L, hL⟩ : ∃ L, L = swapsL := ⟨_, rfl⟩
    have hsw := aes_swaps w
    rw [← hL] at hidx hsw
    clear hL HR
    go_enter Try.func22, Try.ntmps22
    go_wp2_with fail
    refine hsw.mono ?_
    rintro e w1 ⟨rfl, hb1⟩
    have HB := Aside0.mk hb1
    clear hb1 hsw
    go_wp2
    go_ret
    exact ⟨rfl, HB.out⟩
  · rw [if_neg hc] at h
    cases h
def aes_Expand.f (a0 : ByteArray) : Option ByteArray := if a0.size = 16 then some (strOfNums (expandL swapsL a0)) else some ⟨#[]⟩
set_option maxRecDepth 100000 in
theorem aes_Expand.calls (a0 : ByteArray) (r : ByteArray) (w : World) (h : aes_Expand.f a0 = some r) :
    Calls Try.prog 27 #[.string a0] w fun e w' => e = .returned (.string r) ∧ Below w.heap.size w w' := by
  unfold aes_Expand.f at h
  by_cases h0 : a0.size = 16
  · have t0 : ((a0.size : Int) != 16) = false := by simp [h0]
    rw [if_pos h0] at h
    have HR := Aside0.mk (Option.some.inj h)
    have H0 := Aside0.mk h0
    clear h h0
    obtain ⟨L, hL⟩ : ∃ L, L = swapsL := ⟨_, rfl⟩
    have hsw := aes_swaps w
    have hll : L.length = 256 := by rw [hL, swapsL_len]
    rw [← hL] at HR hsw
    have HLL := Aside0.mk hll
    clear hL hll
    go_enter Try.func27, Try.ntmps27
    go_wp2_with fail
    refine hsw.mono ?_
    rintro e w1 ⟨rfl, hb1⟩
    have HB := Aside0.mk hb1
    clear hb1 hsw
    go_wp2_with fail
    refine (aes_expand L HLL.out a0 H0.out _).mono ?_
    rintro e w3 ⟨rfl, hk3, hb3⟩
    have HB3 := Aside0.mk (below_step HB.out hb3)
    have hlen : (expandL L a0).length = 176 := by unfold expandL; rw [exS_len, headB_len _ _ (by rw [H0.out]; omega)]
    have hcv : (convert 27 9 (.slice (some ⟨w1.heap.size + 1, 0, none⟩) 176 176)).run Try.prog w3 = .ok (.string r) w3 := by
      rw [← HR.out]
      refine run_convert_bytes_arg w3 27 5 Try.underlying27 Try.underlying5 (w1.heap.size + 1) 0 176 176 (expandL L a0) hlen (fun i hi => ?_) 9 Try.underlying9
      rw [Nat.zero_add]
      exact AK_cell hk3 i (by rw [hlen]; exact hi)
    clear hk3 hb3 hlen HR
    go_wp2
    go_ret
    exact ⟨rfl, HB3.out⟩
  · have t0 : ((a0.size : Int) != 16) = true := by rw [bne_iff_ne]; omega
    rw [if_neg h0] at h
    obtain rfl := Option.some.inj h
    clear h h0
    go_enter Try.func27, Try.ntmps27
    go_wp2
    go_ret
    exact ⟨rfl, Below.refl _ _⟩
end Go.Proofs.Ytkgijkfcmbpgpaa.Giv
