/- The fixed example of the statements on streams: true. -/
import Derived.Test.YtkgijkfcmbpgpaaPAllx6
import Derived.Test.YtkgijkfcmbpgpaaMAes2
import Derived.KernelRfl
import Derived.Deep.RegionWith
namespace Go.Proofs.Ytkgijkfcmbpgpaa.Giv
open Go.RowKit Go.Proofs.YtkgijkfcmbpgpaaW.PrintWords Go.Proofs.YtkgijkfcmbpgpaaW.PrintLast Go.Proofs.YtkgijkfcmbpgpaaW.PrintMore
set_option linter.unusedVariables false
set_option linter.unusedSimpArgs false
def zsB (n : Nat) : ByteArray := strOfNums (zeroL n)
theorem zsB_size (n : Nat) : (zsB n).size = n := by simp [zsB, zeroL, strOfNums, ByteArray.size]
theorem works_stream : streamB (zsB 16) (zsB 12) 20 = ⟨#[102, 233, 75, 212, 239, 138, 44, 59, 136, 76, 250, 89, 202, 52, 43, 46, 88, 226, 252, 206]⟩ := by
  simp only [streamB, ctrPre, catL, ctrBlk, encB, swaps_box]
  kernel_rfl
theorem works_cipher : PAll.ctr_Cipher.f 100 (zsB 16) (zsB 12) (zsB 20) = some ⟨#[102, 233, 75, 212, 239, 138, 44, 59, 136, 76, 250, 89, 202, 52, 43, 46, 88, 226, 252, 206]⟩ := by
  unfold PAll.ctr_Cipher.f ctr_Stream.f
  have z1 := zsB_size 16
  have z2 := zsB_size 12
  have z3 := zsB_size 20
  rw [z1, z2, z3, if_pos ⟨rfl, rfl, by omega, by omega⟩, show (((20 : Nat) : Int)).toNat = 20 from rfl, works_stream, Option.bind_some]
  decide +kernel
theorem zs_conv (W : World) (g n : Nat) (h : W.heap[g]? = some (.cells (AK .u8 (zeroL n)) 5 (0, 0))) : (convert 27 9 (.slice (some ⟨g, 0, none⟩) n n)).run Try.prog W = .ok (.string (zsB n)) W := by
  have hl := zeroL_len n
  have e := run_convert_bytes_arg W 27 5 Try.underlying27 Try.underlying5 g 0 n n (zeroL n) hl (fun i hi => by
    rw [Nat.zero_add, AK_cell h i (by rw [hl]; exact hi)]) 9 Try.underlying9
  exact e
theorem with_ops {P : Program} {md : Region.Mode} {ops : Array Oper} {Q : Exit → Act → World → Prop} {f : Nat} {l : Array Bool} {a : Act} {w : World} (h : ∀ (ops' : Array Oper) (Q' : Exit → Act → World → Prop), ops' = ops → Q' = Q → wpAny P md ops' Q' f l a w) : wpAny P md ops Q f l a w := h ops Q rfl rfl
def legatelaw05_works.f : Option Bool := some true
set_option maxHeartbeats 4000000 in
set_option maxRecDepth 100000 in
theorem legatelaw05_works.calls (r : Bool) (w : World) (h : legatelaw05_works.f = some r) : Calls Try.prog 29 #[] w fun e w' => e = .returned (.bool r) ∧ Below w.heap.size w w' := by
  obtain rfl := Option.some.inj h
  have m16 : ∀ W : World, (Instr.makeSlice 27 (.int .i64 16) (.int .i64 16)).run Try.prog W = .ok (.slice (some ⟨W.heap.size, 0, none⟩) 16 16) (W.alloc (.cells (AK .u8 (zeroL 16)) 5)) := fun W => makeB W 16 (by omega)
  have m12 : ∀ W : World, (Instr.makeSlice 27 (.int .i64 12) (.int .i64 12)).run Try.prog W = .ok (.slice (some ⟨W.heap.size, 0, none⟩) 12 12) (W.alloc (.cells (AK .u8 (zeroL 12)) 5)) := fun W => makeB W 12 (by omega)
  have m20 : ∀ W : World, (Instr.makeSlice 27 (.int .i64 20) (.int .i64 20)).run Try.prog W = .ok (.slice (some ⟨W.heap.size, 0, none⟩) 20 20) (W.alloc (.cells (AK .u8 (zeroL 20)) 5)) := fun W => makeB W 20 (by omega)
  go_enter Try.func29, Try.ntmps29
  go_wp2
  rename_i K hK
  have main : ∀ (u2 u3 u4 u5 u6 u7 u8 : Value) (W : World), Below w.heap.size w W → K { tmps := #[.bool false, .string ⟨#[102, 233, 75, 212, 239, 138, 44, 59, 136, 76, 250, 89, 202, 52, 43, 46, 88, 226, 252, 206]⟩, u2, u3, u4, u5, u6, u7, u8, undef, undef, undef, undef, undef, undef, undef, undef, undef, undef, undef, undef], defers := [] } W := by
    intro u2 u3 u4 u5 u6 u7 u8 W hW
    refine hK _ _ ?_
    go_wp2_with (go_at_call 32; refine (ctr_Stream.calls ⟨#[]⟩ ⟨#[]⟩ 3 ⟨#[]⟩ _ rfl).mono ?_; rintro e w5 ⟨rfl, hb5⟩)
    all_goals first
      | (exfalso; rename_i hbad; exact hbad (by decide +kernel))
      | (go_ret; exact ⟨rfl, hW.trans (hb5.mono hW.size)⟩)
  refine wp_region_any (by kernel_rfl) ?_
  refine with_ops (fun ops Q hops hQ => ?_)
  have hfin : ∀ (u2 u3 u4 u5 u6 u7 u8 : Value) (W : World), Below w.heap.size w W → Q .normal { tmps := #[.bool false, .string ⟨#[102, 233, 75, 212, 239, 138, 44, 59, 136, 76, 250, 89, 202, 52, 43, 46, 88, 226, 252, 206]⟩, u2, u3, u4, u5, u6, u7, u8, undef, undef, undef, undef, undef, undef, undef, undef, undef, undef, undef, undef], defers := [] } W := fun u2 u3 u4 u5 u6 u7 u8 W hW => by rw [hQ]; exact main u2 u3 u4 u5 u6 u7 u8 W hW
  clear hQ hK main
  have S222 : ∀ (g1 g2 g3 : Nat) (W : World)  (hW : Below w.heap.size w W), wpAny Try.prog .any ops Q 2 #[true, true, true, true, true, true, false, false] { tmps := #[.bool false, undef, .slice (some ⟨g1, 0, none⟩) 16 16, .string (zsB 16), .slice (some ⟨g2, 0, none⟩) 12 12, .string (zsB 12), .slice (some ⟨g3, 0, none⟩) 20 20, .string (zsB 20), undef, undef, undef, undef, undef, undef, undef, undef, undef, undef, undef, undef, undef], defers := [] } W := by
    subst hops
    intro g1 g2 g3 W  hW
    refine wpAny_ready (rs := [6]) (by kernel_rfl) (by simp) ?_
    refine AllReady.cons rfl (fun K hK => ?_) AllReady.nil
    go_simp
    go_at_call 30
    refine (PAll.ctr_Cipher.calls 100 _ _ _ _ W works_cipher).mono ?_
    rintro e w9 ⟨rfl, hb9⟩
    refine hK _ _ ?_
    clear hK K
    refine wpAny_ready (rs := [7]) (by kernel_rfl) (by simp) ?_
    refine AllReady.cons rfl (fun K hK => ?_) AllReady.nil
    go_simp
    refine hK _ _ ?_
    clear hK K
    exact wpAny_done (by kernel_rfl) (hfin _ _ _ _ _ _ _ _ (hW.trans (hb9.mono hW.size))) _
  have S122 : ∀ (g1 g2 g3 : Nat) (W : World) (h1 : W.heap[g1]? = some (.cells (AK .u8 (zeroL 16)) 5 (0, 0))) (hW : Below w.heap.size w W), wpAny Try.prog .any ops Q 3 #[true, false, true, true, true, true, false, false] { tmps := #[.bool false, undef, .slice (some ⟨g1, 0, none⟩) 16 16, undef, .slice (some ⟨g2, 0, none⟩) 12 12, .string (zsB 12), .slice (some ⟨g3, 0, none⟩) 20 20, .string (zsB 20), undef, undef, undef, undef, undef, undef, undef, undef, undef, undef, undef, undef, undef], defers := [] } W := by
    subst hops
    intro g1 g2 g3 W h1 hW
    refine wpAny_ready (rs := [1]) (by kernel_rfl) (by simp) ?_
    refine AllReady.cons rfl (fun K hK => ?_) AllReady.nil
    go_simp
    rw [zs_conv W g1 16 h1]
    go_simp
    refine hK _ _ ?_
    clear hK K
    exact S222 g1 g2 g3 W  hW
  have S212 : ∀ (g1 g2 g3 : Nat) (W : World) (h2 : W.heap[g2]? = some (.cells (AK .u8 (zeroL 12)) 5 (0, 0))) (hW : Below w.heap.size w W), wpAny Try.prog .any ops Q 3 #[true, true, true, false, true, true, false, false] { tmps := #[.bool false, undef, .slice (some ⟨g1, 0, none⟩) 16 16, .string (zsB 16), .slice (some ⟨g2, 0, none⟩) 12 12, undef, .slice (some ⟨g3, 0, none⟩) 20 20, .string (zsB 20), undef, undef, undef, undef, undef, undef, undef, undef, undef, undef, undef, undef, undef], defers := [] } W := by
    subst hops
    intro g1 g2 g3 W h2 hW
    refine wpAny_ready (rs := [3]) (by kernel_rfl) (by simp) ?_
    refine AllReady.cons rfl (fun K hK => ?_) AllReady.nil
    go_simp
    rw [zs_conv W g2 12 h2]
    go_simp
    refine hK _ _ ?_
    clear hK K
    exact S222 g1 g2 g3 W  hW
  have S221 : ∀ (g1 g2 g3 : Nat) (W : World) (h3 : W.heap[g3]? = some (.cells (AK .u8 (zeroL 20)) 5 (0, 0))) (hW : Below w.heap.size w W), wpAny Try.prog .any ops Q 3 #[true, true, true, true, true, false, false, false] { tmps := #[.bool false, undef, .slice (some ⟨g1, 0, none⟩) 16 16, .string (zsB 16), .slice (some ⟨g2, 0, none⟩) 12 12, .string (zsB 12), .slice (some ⟨g3, 0, none⟩) 20 20, undef, undef, undef, undef, undef, undef, undef, undef, undef, undef, undef, undef, undef, undef], defers := [] } W := by
    subst hops
    intro g1 g2 g3 W h3 hW
    refine wpAny_ready (rs := [5]) (by kernel_rfl) (by simp) ?_
    refine AllReady.cons rfl (fun K hK => ?_) AllReady.nil
    go_simp
    rw [zs_conv W g3 20 h3]
    go_simp
    refine hK _ _ ?_
    clear hK K
    exact S222 g1 g2 g3 W  hW
  have S022 : ∀ (g1 g2 g3 : Nat) (W : World)  (hW : Below w.heap.size w W), wpAny Try.prog .any ops Q 4 #[false, false, true, true, true, true, false, false] { tmps := #[.bool false, undef, undef, undef, .slice (some ⟨g2, 0, none⟩) 12 12, .string (zsB 12), .slice (some ⟨g3, 0, none⟩) 20 20, .string (zsB 20), undef, undef, undef, undef, undef, undef, undef, undef, undef, undef, undef, undef, undef], defers := [] } W := by
    subst hops
    intro g1 g2 g3 W  hW
    refine wpAny_ready (rs := [0]) (by kernel_rfl) (by simp) ?_
    refine AllReady.cons rfl (fun K hK => ?_) AllReady.nil
    go_simp
    refine hK _ _ ?_
    clear hK K
    exact S122 W.heap.size g2 g3 _ (heap_at' rfl) (hW.alloc hW.size _)
  have S112 : ∀ (g1 g2 g3 : Nat) (W : World) (h1 : W.heap[g1]? = some (.cells (AK .u8 (zeroL 16)) 5 (0, 0))) (h2 : W.heap[g2]? = some (.cells (AK .u8 (zeroL 12)) 5 (0, 0))) (hW : Below w.heap.size w W), wpAny Try.prog .any ops Q 4 #[true, false, true, false, true, true, false, false] { tmps := #[.bool false, undef, .slice (some ⟨g1, 0, none⟩) 16 16, undef, .slice (some ⟨g2, 0, none⟩) 12 12, undef, .slice (some ⟨g3, 0, none⟩) 20 20, .string (zsB 20), undef, undef, undef, undef, undef, undef, undef, undef, undef, undef, undef, undef, undef], defers := [] } W := by
    subst hops
    intro g1 g2 g3 W h1 h2 hW
    refine wpAny_ready (rs := [1, 3]) (by kernel_rfl) (by simp) ?_
    refine AllReady.cons rfl (fun K hK => ?_) ?_
    · go_simp
      rw [zs_conv W g1 16 h1]
      go_simp
      refine hK _ _ ?_
      clear hK K
      exact S212 g1 g2 g3 W h2 hW
    refine AllReady.cons rfl (fun K hK => ?_) AllReady.nil
    go_simp
    rw [zs_conv W g2 12 h2]
    go_simp
    refine hK _ _ ?_
    clear hK K
    exact S122 g1 g2 g3 W h1 hW
  have S121 : ∀ (g1 g2 g3 : Nat) (W : World) (h1 : W.heap[g1]? = some (.cells (AK .u8 (zeroL 16)) 5 (0, 0))) (h3 : W.heap[g3]? = some (.cells (AK .u8 (zeroL 20)) 5 (0, 0))) (hW : Below w.heap.size w W), wpAny Try.prog .any ops Q 4 #[true, false, true, true, true, false, false, false] { tmps := #[.bool false, undef, .slice (some ⟨g1, 0, none⟩) 16 16, undef, .slice (some ⟨g2, 0, none⟩) 12 12, .string (zsB 12), .slice (some ⟨g3, 0, none⟩) 20 20, undef, undef, undef, undef, undef, undef, undef, undef, undef, undef, undef, undef, undef, undef], defers := [] } W := by
    subst hops
    intro g1 g2 g3 W h1 h3 hW
    refine wpAny_ready (rs := [1, 5]) (by kernel_rfl) (by simp) ?_
    refine AllReady.cons rfl (fun K hK => ?_) ?_
    · go_simp
      rw [zs_conv W g1 16 h1]
      go_simp
      refine hK _ _ ?_
      clear hK K
      exact S221 g1 g2 g3 W h3 hW
    refine AllReady.cons rfl (fun K hK => ?_) AllReady.nil
    go_simp
    rw [zs_conv W g3 20 h3]
    go_simp
    refine hK _ _ ?_
    clear hK K
    exact S122 g1 g2 g3 W h1 hW
  have S202 : ∀ (g1 g2 g3 : Nat) (W : World)  (hW : Below w.heap.size w W), wpAny Try.prog .any ops Q 4 #[true, true, false, false, true, true, false, false] { tmps := #[.bool false, undef, .slice (some ⟨g1, 0, none⟩) 16 16, .string (zsB 16), undef, undef, .slice (some ⟨g3, 0, none⟩) 20 20, .string (zsB 20), undef, undef, undef, undef, undef, undef, undef, undef, undef, undef, undef, undef, undef], defers := [] } W := by
    subst hops
    intro g1 g2 g3 W  hW
    refine wpAny_ready (rs := [2]) (by kernel_rfl) (by simp) ?_
    refine AllReady.cons rfl (fun K hK => ?_) AllReady.nil
    go_simp
    refine hK _ _ ?_
    clear hK K
    exact S212 g1 W.heap.size g3 _ (heap_at' rfl) (hW.alloc hW.size _)
  have S211 : ∀ (g1 g2 g3 : Nat) (W : World) (h2 : W.heap[g2]? = some (.cells (AK .u8 (zeroL 12)) 5 (0, 0))) (h3 : W.heap[g3]? = some (.cells (AK .u8 (zeroL 20)) 5 (0, 0))) (hW : Below w.heap.size w W), wpAny Try.prog .any ops Q 4 #[true, true, true, false, true, false, false, false] { tmps := #[.bool false, undef, .slice (some ⟨g1, 0, none⟩) 16 16, .string (zsB 16), .slice (some ⟨g2, 0, none⟩) 12 12, undef, .slice (some ⟨g3, 0, none⟩) 20 20, undef, undef, undef, undef, undef, undef, undef, undef, undef, undef, undef, undef, undef, undef], defers := [] } W := by
    subst hops
    intro g1 g2 g3 W h2 h3 hW
    refine wpAny_ready (rs := [3, 5]) (by kernel_rfl) (by simp) ?_
    refine AllReady.cons rfl (fun K hK => ?_) ?_
    · go_simp
      rw [zs_conv W g2 12 h2]
      go_simp
      refine hK _ _ ?_
      clear hK K
      exact S221 g1 g2 g3 W h3 hW
    refine AllReady.cons rfl (fun K hK => ?_) AllReady.nil
    go_simp
    rw [zs_conv W g3 20 h3]
    go_simp
    refine hK _ _ ?_
    clear hK K
    exact S212 g1 g2 g3 W h2 hW
  have S220 : ∀ (g1 g2 g3 : Nat) (W : World)  (hW : Below w.heap.size w W), wpAny Try.prog .any ops Q 4 #[true, true, true, true, false, false, false, false] { tmps := #[.bool false, undef, .slice (some ⟨g1, 0, none⟩) 16 16, .string (zsB 16), .slice (some ⟨g2, 0, none⟩) 12 12, .string (zsB 12), undef, undef, undef, undef, undef, undef, undef, undef, undef, undef, undef, undef, undef, undef, undef], defers := [] } W := by
    subst hops
    intro g1 g2 g3 W  hW
    refine wpAny_ready (rs := [4]) (by kernel_rfl) (by simp) ?_
    refine AllReady.cons rfl (fun K hK => ?_) AllReady.nil
    go_simp
    refine hK _ _ ?_
    clear hK K
    exact S221 g1 g2 W.heap.size _ (heap_at' rfl) (hW.alloc hW.size _)
  have S012 : ∀ (g1 g2 g3 : Nat) (W : World) (h2 : W.heap[g2]? = some (.cells (AK .u8 (zeroL 12)) 5 (0, 0))) (hW : Below w.heap.size w W), wpAny Try.prog .any ops Q 5 #[false, false, true, false, true, true, false, false] { tmps := #[.bool false, undef, undef, undef, .slice (some ⟨g2, 0, none⟩) 12 12, undef, .slice (some ⟨g3, 0, none⟩) 20 20, .string (zsB 20), undef, undef, undef, undef, undef, undef, undef, undef, undef, undef, undef, undef, undef], defers := [] } W := by
    subst hops
    intro g1 g2 g3 W h2 hW
    refine wpAny_ready (rs := [0, 3]) (by kernel_rfl) (by simp) ?_
    refine AllReady.cons rfl (fun K hK => ?_) ?_
    · go_simp
      refine hK _ _ ?_
      clear hK K
      exact S112 W.heap.size g2 g3 _ (heap_at' rfl) (heap_before' h2) (hW.alloc hW.size _)
    refine AllReady.cons rfl (fun K hK => ?_) AllReady.nil
    go_simp
    rw [zs_conv W g2 12 h2]
    go_simp
    refine hK _ _ ?_
    clear hK K
    exact S022 g1 g2 g3 W  hW
  have S021 : ∀ (g1 g2 g3 : Nat) (W : World) (h3 : W.heap[g3]? = some (.cells (AK .u8 (zeroL 20)) 5 (0, 0))) (hW : Below w.heap.size w W), wpAny Try.prog .any ops Q 5 #[false, false, true, true, true, false, false, false] { tmps := #[.bool false, undef, undef, undef, .slice (some ⟨g2, 0, none⟩) 12 12, .string (zsB 12), .slice (some ⟨g3, 0, none⟩) 20 20, undef, undef, undef, undef, undef, undef, undef, undef, undef, undef, undef, undef, undef, undef], defers := [] } W := by
    subst hops
    intro g1 g2 g3 W h3 hW
    refine wpAny_ready (rs := [0, 5]) (by kernel_rfl) (by simp) ?_
    refine AllReady.cons rfl (fun K hK => ?_) ?_
    · go_simp
      refine hK _ _ ?_
      clear hK K
      exact S121 W.heap.size g2 g3 _ (heap_at' rfl) (heap_before' h3) (hW.alloc hW.size _)
    refine AllReady.cons rfl (fun K hK => ?_) AllReady.nil
    go_simp
    rw [zs_conv W g3 20 h3]
    go_simp
    refine hK _ _ ?_
    clear hK K
    exact S022 g1 g2 g3 W  hW
  have S102 : ∀ (g1 g2 g3 : Nat) (W : World) (h1 : W.heap[g1]? = some (.cells (AK .u8 (zeroL 16)) 5 (0, 0))) (hW : Below w.heap.size w W), wpAny Try.prog .any ops Q 5 #[true, false, false, false, true, true, false, false] { tmps := #[.bool false, undef, .slice (some ⟨g1, 0, none⟩) 16 16, undef, undef, undef, .slice (some ⟨g3, 0, none⟩) 20 20, .string (zsB 20), undef, undef, undef, undef, undef, undef, undef, undef, undef, undef, undef, undef, undef], defers := [] } W := by
    subst hops
    intro g1 g2 g3 W h1 hW
    refine wpAny_ready (rs := [1, 2]) (by kernel_rfl) (by simp) ?_
    refine AllReady.cons rfl (fun K hK => ?_) ?_
    · go_simp
      rw [zs_conv W g1 16 h1]
      go_simp
      refine hK _ _ ?_
      clear hK K
      exact S202 g1 g2 g3 W  hW
    refine AllReady.cons rfl (fun K hK => ?_) AllReady.nil
    go_simp
    refine hK _ _ ?_
    clear hK K
    exact S112 g1 W.heap.size g3 _ (heap_before' h1) (heap_at' rfl) (hW.alloc hW.size _)
  have S111 : ∀ (g1 g2 g3 : Nat) (W : World) (h1 : W.heap[g1]? = some (.cells (AK .u8 (zeroL 16)) 5 (0, 0))) (h2 : W.heap[g2]? = some (.cells (AK .u8 (zeroL 12)) 5 (0, 0))) (h3 : W.heap[g3]? = some (.cells (AK .u8 (zeroL 20)) 5 (0, 0))) (hW : Below w.heap.size w W), wpAny Try.prog .any ops Q 5 #[true, false, true, false, true, false, false, false] { tmps := #[.bool false, undef, .slice (some ⟨g1, 0, none⟩) 16 16, undef, .slice (some ⟨g2, 0, none⟩) 12 12, undef, .slice (some ⟨g3, 0, none⟩) 20 20, undef, undef, undef, undef, undef, undef, undef, undef, undef, undef, undef, undef, undef, undef], defers := [] } W := by
    subst hops
    intro g1 g2 g3 W h1 h2 h3 hW
    refine wpAny_ready (rs := [1, 3, 5]) (by kernel_rfl) (by simp) ?_
    refine AllReady.cons rfl (fun K hK => ?_) ?_
    · go_simp
      rw [zs_conv W g1 16 h1]
      go_simp
      refine hK _ _ ?_
      clear hK K
      exact S211 g1 g2 g3 W h2 h3 hW
    refine AllReady.cons rfl (fun K hK => ?_) ?_
    · go_simp
      rw [zs_conv W g2 12 h2]
      go_simp
      refine hK _ _ ?_
      clear hK K
      exact S121 g1 g2 g3 W h1 h3 hW
    refine AllReady.cons rfl (fun K hK => ?_) AllReady.nil
    go_simp
    rw [zs_conv W g3 20 h3]
    go_simp
    refine hK _ _ ?_
    clear hK K
    exact S112 g1 g2 g3 W h1 h2 hW
  have S120 : ∀ (g1 g2 g3 : Nat) (W : World) (h1 : W.heap[g1]? = some (.cells (AK .u8 (zeroL 16)) 5 (0, 0))) (hW : Below w.heap.size w W), wpAny Try.prog .any ops Q 5 #[true, false, true, true, false, false, false, false] { tmps := #[.bool false, undef, .slice (some ⟨g1, 0, none⟩) 16 16, undef, .slice (some ⟨g2, 0, none⟩) 12 12, .string (zsB 12), undef, undef, undef, undef, undef, undef, undef, undef, undef, undef, undef, undef, undef, undef, undef], defers := [] } W := by
    subst hops
    intro g1 g2 g3 W h1 hW
    refine wpAny_ready (rs := [1, 4]) (by kernel_rfl) (by simp) ?_
    refine AllReady.cons rfl (fun K hK => ?_) ?_
    · go_simp
      rw [zs_conv W g1 16 h1]
      go_simp
      refine hK _ _ ?_
      clear hK K
      exact S220 g1 g2 g3 W  hW
    refine AllReady.cons rfl (fun K hK => ?_) AllReady.nil
    go_simp
    refine hK _ _ ?_
    clear hK K
    exact S121 g1 g2 W.heap.size _ (heap_before' h1) (heap_at' rfl) (hW.alloc hW.size _)
  have S201 : ∀ (g1 g2 g3 : Nat) (W : World) (h3 : W.heap[g3]? = some (.cells (AK .u8 (zeroL 20)) 5 (0, 0))) (hW : Below w.heap.size w W), wpAny Try.prog .any ops Q 5 #[true, true, false, false, true, false, false, false] { tmps := #[.bool false, undef, .slice (some ⟨g1, 0, none⟩) 16 16, .string (zsB 16), undef, undef, .slice (some ⟨g3, 0, none⟩) 20 20, undef, undef, undef, undef, undef, undef, undef, undef, undef, undef, undef, undef, undef, undef], defers := [] } W := by
    subst hops
    intro g1 g2 g3 W h3 hW
    refine wpAny_ready (rs := [2, 5]) (by kernel_rfl) (by simp) ?_
    refine AllReady.cons rfl (fun K hK => ?_) ?_
    · go_simp
      refine hK _ _ ?_
      clear hK K
      exact S211 g1 W.heap.size g3 _ (heap_at' rfl) (heap_before' h3) (hW.alloc hW.size _)
    refine AllReady.cons rfl (fun K hK => ?_) AllReady.nil
    go_simp
    rw [zs_conv W g3 20 h3]
    go_simp
    refine hK _ _ ?_
    clear hK K
    exact S202 g1 g2 g3 W  hW
  have S210 : ∀ (g1 g2 g3 : Nat) (W : World) (h2 : W.heap[g2]? = some (.cells (AK .u8 (zeroL 12)) 5 (0, 0))) (hW : Below w.heap.size w W), wpAny Try.prog .any ops Q 5 #[true, true, true, false, false, false, false, false] { tmps := #[.bool false, undef, .slice (some ⟨g1, 0, none⟩) 16 16, .string (zsB 16), .slice (some ⟨g2, 0, none⟩) 12 12, undef, undef, undef, undef, undef, undef, undef, undef, undef, undef, undef, undef, undef, undef, undef, undef], defers := [] } W := by
    subst hops
    intro g1 g2 g3 W h2 hW
    refine wpAny_ready (rs := [3, 4]) (by kernel_rfl) (by simp) ?_
    refine AllReady.cons rfl (fun K hK => ?_) ?_
    · go_simp
      rw [zs_conv W g2 12 h2]
      go_simp
      refine hK _ _ ?_
      clear hK K
      exact S220 g1 g2 g3 W  hW
    refine AllReady.cons rfl (fun K hK => ?_) AllReady.nil
    go_simp
    refine hK _ _ ?_
    clear hK K
    exact S211 g1 g2 W.heap.size _ (heap_before' h2) (heap_at' rfl) (hW.alloc hW.size _)
  have S002 : ∀ (g1 g2 g3 : Nat) (W : World)  (hW : Below w.heap.size w W), wpAny Try.prog .any ops Q 6 #[false, false, false, false, true, true, false, false] { tmps := #[.bool false, undef, undef, undef, undef, undef, .slice (some ⟨g3, 0, none⟩) 20 20, .string (zsB 20), undef, undef, undef, undef, undef, undef, undef, undef, undef, undef, undef, undef, undef], defers := [] } W := by
    subst hops
    intro g1 g2 g3 W  hW
    refine wpAny_ready (rs := [0, 2]) (by kernel_rfl) (by simp) ?_
    refine AllReady.cons rfl (fun K hK => ?_) ?_
    · go_simp
      refine hK _ _ ?_
      clear hK K
      exact S102 W.heap.size g2 g3 _ (heap_at' rfl) (hW.alloc hW.size _)
    refine AllReady.cons rfl (fun K hK => ?_) AllReady.nil
    go_simp
    refine hK _ _ ?_
    clear hK K
    exact S012 g1 W.heap.size g3 _ (heap_at' rfl) (hW.alloc hW.size _)
  have S011 : ∀ (g1 g2 g3 : Nat) (W : World) (h2 : W.heap[g2]? = some (.cells (AK .u8 (zeroL 12)) 5 (0, 0))) (h3 : W.heap[g3]? = some (.cells (AK .u8 (zeroL 20)) 5 (0, 0))) (hW : Below w.heap.size w W), wpAny Try.prog .any ops Q 6 #[false, false, true, false, true, false, false, false] { tmps := #[.bool false, undef, undef, undef, .slice (some ⟨g2, 0, none⟩) 12 12, undef, .slice (some ⟨g3, 0, none⟩) 20 20, undef, undef, undef, undef, undef, undef, undef, undef, undef, undef, undef, undef, undef, undef], defers := [] } W := by
    subst hops
    intro g1 g2 g3 W h2 h3 hW
    refine wpAny_ready (rs := [0, 3, 5]) (by kernel_rfl) (by simp) ?_
    refine AllReady.cons rfl (fun K hK => ?_) ?_
    · go_simp
      refine hK _ _ ?_
      clear hK K
      exact S111 W.heap.size g2 g3 _ (heap_at' rfl) (heap_before' h2) (heap_before' h3) (hW.alloc hW.size _)
    refine AllReady.cons rfl (fun K hK => ?_) ?_
    · go_simp
      rw [zs_conv W g2 12 h2]
      go_simp
      refine hK _ _ ?_
      clear hK K
      exact S021 g1 g2 g3 W h3 hW
    refine AllReady.cons rfl (fun K hK => ?_) AllReady.nil
    go_simp
    rw [zs_conv W g3 20 h3]
    go_simp
    refine hK _ _ ?_
    clear hK K
    exact S012 g1 g2 g3 W h2 hW
  have S020 : ∀ (g1 g2 g3 : Nat) (W : World)  (hW : Below w.heap.size w W), wpAny Try.prog .any ops Q 6 #[false, false, true, true, false, false, false, false] { tmps := #[.bool false, undef, undef, undef, .slice (some ⟨g2, 0, none⟩) 12 12, .string (zsB 12), undef, undef, undef, undef, undef, undef, undef, undef, undef, undef, undef, undef, undef, undef, undef], defers := [] } W := by
    subst hops
    intro g1 g2 g3 W  hW
    refine wpAny_ready (rs := [0, 4]) (by kernel_rfl) (by simp) ?_
    refine AllReady.cons rfl (fun K hK => ?_) ?_
    · go_simp
      refine hK _ _ ?_
      clear hK K
      exact S120 W.heap.size g2 g3 _ (heap_at' rfl) (hW.alloc hW.size _)
    refine AllReady.cons rfl (fun K hK => ?_) AllReady.nil
    go_simp
    refine hK _ _ ?_
    clear hK K
    exact S021 g1 g2 W.heap.size _ (heap_at' rfl) (hW.alloc hW.size _)
  have S101 : ∀ (g1 g2 g3 : Nat) (W : World) (h1 : W.heap[g1]? = some (.cells (AK .u8 (zeroL 16)) 5 (0, 0))) (h3 : W.heap[g3]? = some (.cells (AK .u8 (zeroL 20)) 5 (0, 0))) (hW : Below w.heap.size w W), wpAny Try.prog .any ops Q 6 #[true, false, false, false, true, false, false, false] { tmps := #[.bool false, undef, .slice (some ⟨g1, 0, none⟩) 16 16, undef, undef, undef, .slice (some ⟨g3, 0, none⟩) 20 20, undef, undef, undef, undef, undef, undef, undef, undef, undef, undef, undef, undef, undef, undef], defers := [] } W := by
    subst hops
    intro g1 g2 g3 W h1 h3 hW
    refine wpAny_ready (rs := [1, 2, 5]) (by kernel_rfl) (by simp) ?_
    refine AllReady.cons rfl (fun K hK => ?_) ?_
    · go_simp
      rw [zs_conv W g1 16 h1]
      go_simp
      refine hK _ _ ?_
      clear hK K
      exact S201 g1 g2 g3 W h3 hW
    refine AllReady.cons rfl (fun K hK => ?_) ?_
    · go_simp
      refine hK _ _ ?_
      clear hK K
      exact S111 g1 W.heap.size g3 _ (heap_before' h1) (heap_at' rfl) (heap_before' h3) (hW.alloc hW.size _)
    refine AllReady.cons rfl (fun K hK => ?_) AllReady.nil
    go_simp
    rw [zs_conv W g3 20 h3]
    go_simp
    refine hK _ _ ?_
    clear hK K
    exact S102 g1 g2 g3 W h1 hW
  have S110 : ∀ (g1 g2 g3 : Nat) (W : World) (h1 : W.heap[g1]? = some (.cells (AK .u8 (zeroL 16)) 5 (0, 0))) (h2 : W.heap[g2]? = some (.cells (AK .u8 (zeroL 12)) 5 (0, 0))) (hW : Below w.heap.size w W), wpAny Try.prog .any ops Q 6 #[true, false, true, false, false, false, false, false] { tmps := #[.bool false, undef, .slice (some ⟨g1, 0, none⟩) 16 16, undef, .slice (some ⟨g2, 0, none⟩) 12 12, undef, undef, undef, undef, undef, undef, undef, undef, undef, undef, undef, undef, undef, undef, undef, undef], defers := [] } W := by
    subst hops
    intro g1 g2 g3 W h1 h2 hW
    refine wpAny_ready (rs := [1, 3, 4]) (by kernel_rfl) (by simp) ?_
    refine AllReady.cons rfl (fun K hK => ?_) ?_
    · go_simp
      rw [zs_conv W g1 16 h1]
      go_simp
      refine hK _ _ ?_
      clear hK K
      exact S210 g1 g2 g3 W h2 hW
    refine AllReady.cons rfl (fun K hK => ?_) ?_
    · go_simp
      rw [zs_conv W g2 12 h2]
      go_simp
      refine hK _ _ ?_
      clear hK K
      exact S120 g1 g2 g3 W h1 hW
    refine AllReady.cons rfl (fun K hK => ?_) AllReady.nil
    go_simp
    refine hK _ _ ?_
    clear hK K
    exact S111 g1 g2 W.heap.size _ (heap_before' h1) (heap_before' h2) (heap_at' rfl) (hW.alloc hW.size _)
  have S200 : ∀ (g1 g2 g3 : Nat) (W : World)  (hW : Below w.heap.size w W), wpAny Try.prog .any ops Q 6 #[true, true, false, false, false, false, false, false] { tmps := #[.bool false, undef, .slice (some ⟨g1, 0, none⟩) 16 16, .string (zsB 16), undef, undef, undef, undef, undef, undef, undef, undef, undef, undef, undef, undef, undef, undef, undef, undef, undef], defers := [] } W := by
    subst hops
    intro g1 g2 g3 W  hW
    refine wpAny_ready (rs := [2, 4]) (by kernel_rfl) (by simp) ?_
    refine AllReady.cons rfl (fun K hK => ?_) ?_
    · go_simp
      refine hK _ _ ?_
      clear hK K
      exact S210 g1 W.heap.size g3 _ (heap_at' rfl) (hW.alloc hW.size _)
    refine AllReady.cons rfl (fun K hK => ?_) AllReady.nil
    go_simp
    refine hK _ _ ?_
    clear hK K
    exact S201 g1 g2 W.heap.size _ (heap_at' rfl) (hW.alloc hW.size _)
  have S001 : ∀ (g1 g2 g3 : Nat) (W : World) (h3 : W.heap[g3]? = some (.cells (AK .u8 (zeroL 20)) 5 (0, 0))) (hW : Below w.heap.size w W), wpAny Try.prog .any ops Q 7 #[false, false, false, false, true, false, false, false] { tmps := #[.bool false, undef, undef, undef, undef, undef, .slice (some ⟨g3, 0, none⟩) 20 20, undef, undef, undef, undef, undef, undef, undef, undef, undef, undef, undef, undef, undef, undef], defers := [] } W := by
    subst hops
    intro g1 g2 g3 W h3 hW
    refine wpAny_ready (rs := [0, 2, 5]) (by kernel_rfl) (by simp) ?_
    refine AllReady.cons rfl (fun K hK => ?_) ?_
    · go_simp
      refine hK _ _ ?_
      clear hK K
      exact S101 W.heap.size g2 g3 _ (heap_at' rfl) (heap_before' h3) (hW.alloc hW.size _)
    refine AllReady.cons rfl (fun K hK => ?_) ?_
    · go_simp
      refine hK _ _ ?_
      clear hK K
      exact S011 g1 W.heap.size g3 _ (heap_at' rfl) (heap_before' h3) (hW.alloc hW.size _)
    refine AllReady.cons rfl (fun K hK => ?_) AllReady.nil
    go_simp
    rw [zs_conv W g3 20 h3]
    go_simp
    refine hK _ _ ?_
    clear hK K
    exact S002 g1 g2 g3 W  hW
  have S010 : ∀ (g1 g2 g3 : Nat) (W : World) (h2 : W.heap[g2]? = some (.cells (AK .u8 (zeroL 12)) 5 (0, 0))) (hW : Below w.heap.size w W), wpAny Try.prog .any ops Q 7 #[false, false, true, false, false, false, false, false] { tmps := #[.bool false, undef, undef, undef, .slice (some ⟨g2, 0, none⟩) 12 12, undef, undef, undef, undef, undef, undef, undef, undef, undef, undef, undef, undef, undef, undef, undef, undef], defers := [] } W := by
    subst hops
    intro g1 g2 g3 W h2 hW
    refine wpAny_ready (rs := [0, 3, 4]) (by kernel_rfl) (by simp) ?_
    refine AllReady.cons rfl (fun K hK => ?_) ?_
    · go_simp
      refine hK _ _ ?_
      clear hK K
      exact S110 W.heap.size g2 g3 _ (heap_at' rfl) (heap_before' h2) (hW.alloc hW.size _)
    refine AllReady.cons rfl (fun K hK => ?_) ?_
    · go_simp
      rw [zs_conv W g2 12 h2]
      go_simp
      refine hK _ _ ?_
      clear hK K
      exact S020 g1 g2 g3 W  hW
    refine AllReady.cons rfl (fun K hK => ?_) AllReady.nil
    go_simp
    refine hK _ _ ?_
    clear hK K
    exact S011 g1 g2 W.heap.size _ (heap_before' h2) (heap_at' rfl) (hW.alloc hW.size _)
  have S100 : ∀ (g1 g2 g3 : Nat) (W : World) (h1 : W.heap[g1]? = some (.cells (AK .u8 (zeroL 16)) 5 (0, 0))) (hW : Below w.heap.size w W), wpAny Try.prog .any ops Q 7 #[true, false, false, false, false, false, false, false] { tmps := #[.bool false, undef, .slice (some ⟨g1, 0, none⟩) 16 16, undef, undef, undef, undef, undef, undef, undef, undef, undef, undef, undef, undef, undef, undef, undef, undef, undef, undef], defers := [] } W := by
    subst hops
    intro g1 g2 g3 W h1 hW
    refine wpAny_ready (rs := [1, 2, 4]) (by kernel_rfl) (by simp) ?_
    refine AllReady.cons rfl (fun K hK => ?_) ?_
    · go_simp
      rw [zs_conv W g1 16 h1]
      go_simp
      refine hK _ _ ?_
      clear hK K
      exact S200 g1 g2 g3 W  hW
    refine AllReady.cons rfl (fun K hK => ?_) ?_
    · go_simp
      refine hK _ _ ?_
      clear hK K
      exact S110 g1 W.heap.size g3 _ (heap_before' h1) (heap_at' rfl) (hW.alloc hW.size _)
    refine AllReady.cons rfl (fun K hK => ?_) AllReady.nil
    go_simp
    refine hK _ _ ?_
    clear hK K
    exact S101 g1 g2 W.heap.size _ (heap_before' h1) (heap_at' rfl) (hW.alloc hW.size _)
  have S000 : ∀ (g1 g2 g3 : Nat) (W : World)  (hW : Below w.heap.size w W), wpAny Try.prog .any ops Q 8 #[false, false, false, false, false, false, false, false] { tmps := #[.bool false, undef, undef, undef, undef, undef, undef, undef, undef, undef, undef, undef, undef, undef, undef, undef, undef, undef, undef, undef, undef], defers := [] } W := by
    subst hops
    intro g1 g2 g3 W  hW
    refine wpAny_ready (rs := [0, 2, 4]) (by kernel_rfl) (by simp) ?_
    refine AllReady.cons rfl (fun K hK => ?_) ?_
    · go_simp
      refine hK _ _ ?_
      clear hK K
      exact S100 W.heap.size g2 g3 _ (heap_at' rfl) (hW.alloc hW.size _)
    refine AllReady.cons rfl (fun K hK => ?_) ?_
    · go_simp
      refine hK _ _ ?_
      clear hK K
      exact S010 g1 W.heap.size g3 _ (heap_at' rfl) (hW.alloc hW.size _)
    refine AllReady.cons rfl (fun K hK => ?_) AllReady.nil
    go_simp
    refine hK _ _ ?_
    clear hK K
    exact S001 g1 g2 W.heap.size _ (heap_at' rfl) (hW.alloc hW.size _)
  exact S000 0 0 0 _ (Below.drew (Below.refl _ w))
end Go.Proofs.Ytkgijkfcmbpgpaa.Giv
