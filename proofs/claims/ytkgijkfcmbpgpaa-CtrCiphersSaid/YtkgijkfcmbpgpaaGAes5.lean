/- Package aes: a block, encrypted. -/
import Derived.Test.YtkgijkfcmbpgpaaGAes4
namespace Go.Proofs.Ytkgijkfcmbpgpaa.Giv
open Go.RowKit Go.Proofs.YtkgijkfcmbpgpaaW.PrintWords Go.Proofs.YtkgijkfcmbpgpaaW.PrintLast Go.Proofs.YtkgijkfcmbpgpaaW.PrintMore Go.Proofs.Ytkgijkfcmbpgpaa.PSub
set_option linter.unusedVariables false
set_option linter.unusedSimpArgs false
def encR (t K s : List Int) (k : Nat) : List Int :=
  if k < 10 then adS (mxS (shS s t 16) 4) (K.drop (16 * k)) 16 else adS (shS s t 16) (K.drop (16 * k)) 16
/-- A state behind the rounds 1 to k. -/
def encS (t K s : List Int) : Nat → List Int
  | 0 => adS s K 16
  | k + 1 => encR t K (encS t K s k) (k + 1)
def encB (key block : ByteArray) : ByteArray := strOfNums (encS swapsL (expandL swapsL key) (bytesOf block) 10)
theorem encR_len (t K s : List Int) (k : Nat) : (encR t K s k).length = s.length := by
  unfold encR
  split <;> simp [adS_len, mxS_len, shS_len]
theorem encS_len (t K s : List Int) : ∀ k, (encS t K s k).length = s.length
  | 0 => by simp [encS, adS_len]
  | k + 1 => by unfold encS; rw [encR_len, encS_len t K s k]
theorem adS_u8 (s K : List Int) (h : U8s s) : ∀ k, U8s (adS s K k)
  | 0 => h
  | k + 1 => (adS_u8 s K h k).set _ (bits_u8 _ _ _ (.inr (.inr rfl)))
theorem encS_u8 (t K s : List Int) (h : U8s s) (hl : s.length = 16) (ht : U8s t) : ∀ k, U8s (encS t K s k) := by
  have sh : ∀ (s : List Int), U8s s → ∀ k, U8s (shS s t k) := fun s hs k => by
    induction k with
    | zero => exact hs
    | succ k ih => exact ih.set _ (ht.at _)
  have mx : ∀ (L : List Int), U8s L → ∀ i, U8s (mxRow L i) := fun L hL i => by
    have q : ∀ a b, U8 (x8 a b) := fun a b => bits_u8 _ _ _ (.inr (.inr rfl))
    unfold mxRow mx4
    exact (((hL.set _ (q _ _)).set _ (q _ _)).set _ (q _ _)).set _ (q _ _)
  have mS : ∀ (s : List Int), U8s s → ∀ k, U8s (mxS s k) := fun s hs k => by
    induction k with
    | zero => exact hs
    | succ k ih => exact mx _ ih _
  intro k
  induction k with
  | zero => exact adS_u8 _ _ h 16
  | succ k ih =>
    unfold encS encR
    split
    · exact adS_u8 _ _ (mS _ (sh _ ih 16) 4) 16
    · exact adS_u8 _ _ (sh _ ih 16) 16
theorem swT_u8 : ∀ k, U8s (swT k)
  | 0 => fun x hx => by unfold swT at hx; rw [List.mem_replicate] at hx; rw [hx.2]; unfold U8; omega
  | k + 1 => (swT_u8 k).set _ (bits_u8 _ _ _ (.inr (.inr rfl)))
theorem swapsL_u8 : U8s swapsL := (swT_u8 255).set 0 (by unfold U8; omega)
def aes_Encrypt.f (a0 a1 : ByteArray) : Option ByteArray := if a0.size = 16 ∧ a1.size = 16 then some (encB a0 a1) else some ⟨#[]⟩
/-- What the rounds lean on. -/
def EncW (w : World) (gT gK gS : Nat) (t K s : List Int) (W : World) : Prop :=
  W.heap[gS]? = some (.cells (AK .u8 s) 63 (0, 0)) ∧ W.heap[gT]? = some (.cells (AK .u8 t) 59 (0, 0)) ∧ W.heap[gK]? = some (.cells (AK .u8 K) 5 (0, 0)) ∧ Below w.heap.size w W
theorem EncW.turned {w : World} {gT gK gS : Nat} {t K s s' : List Int} {W W' : World} (h : EncW w gT gK gS t K s W) (ht : Turned W gS s' W') (h1 : gT ≠ gS) (h2 : gK ≠ gS) (h3 : w.heap.size ≤ gS) : EncW w gT gK gS t K s' W' := by
  obtain ⟨a, b, c, d⟩ := h
  refine ⟨ht.1, (ht.2.block gT (Array.getElem?_eq_some_iff.1 b).1 (fun e => h1 (Option.some.inj e))).trans b, (ht.2.block gK (Array.getElem?_eq_some_iff.1 c).1 (fun e => h2 (Option.some.inj e))).trans c, d.grown ht.2 d.size (fun k hk => by rw [← Option.some.inj hk]; exact h3)⟩
set_option maxHeartbeats 4000000 in
set_option maxRecDepth 100000 in
theorem aes_Encrypt.calls (a0 a1 : ByteArray) (r : ByteArray) (w : World) (h : aes_Encrypt.f a0 a1 = some r) :
    Calls Try.prog 25 #[.string a0, .string a1] w fun e w' => e = .returned (.string r) ∧ Below w.heap.size w w' := by
  unfold aes_Encrypt.f at h
  by_cases h0 : a0.size = 16
  · have t0 : ((a0.size : Int) != 16) = false := by simp [h0]
    by_cases h1 : a1.size = 16
    · have t1 : ((a1.size : Int) != 16) = false := by simp [h1]
      rw [if_pos ⟨h0, h1⟩] at h
      obtain rfl := Option.some.inj h
      have H0 := Aside0.mk h0
      have H1 := Aside0.mk h1
      clear h h0 h1
      go_enter Try.func25, Try.ntmps25
      go_wp2_with fail
      refine (aes_swaps _).mono ?_
      rintro e w1 ⟨rfl, hb1⟩
      have HB1 := Aside0.mk hb1
      have HZ := Aside0.mk ((heap_alloc_new w1 (.cells (AK .u8 (swT 0)) 59)))
      clear hb1
      have hz := zero256
      obtain ⟨L, hL⟩ : ∃ L, L = swapsL := ⟨_, rfl⟩
      have HLE := Aside0.mk hL
      have HLL : Aside0 (L.length = 256) := ⟨by rw [hL, swapsL_len]⟩
      rw [← hL]
      clear hL
      have HX := Aside0.mk (setRow_heap (w1.alloc (.cells (AK .u8 (swT 0)) 59)) w1.heap.size _ (AK .u8 L) 59 (0, 0) HZ.out)
      go_wp2_with (first | (refine wpList_store_row rfl 59 (.tmp 5) (.tmp 17) rfl w1.heap.size (AK .u8 L) rfl rfl 59 (AK .u8 (swT 0)) HZ.out (by rw [AK_size, HLL.out]; kernel_rfl) (by rw [AK_size, AK_size, HLL.out, swT_len]) (AK_one _ _) ?_) | (refine wpList_load_row rfl 59 (.tmp 5) rfl w1.heap.size rfl 59 (AK .u8 L) (0, 0) _ HX.out Try.underlying59 rfl (by rw [AK_size, HLL.out]; kernel_rfl) ?_) | (go_at_call 46; refine (aes_expand L HLL.out a0 H0.out _).mono ?_; rintro e w3 ⟨rfl, hk3, hb3⟩))
      have hKlen : (expandL L a0).length = 176 := by unfold expandL; rw [exS_len, headB_len _ _ (by rw [H0.out]; omega)]
      have kb := print_bytes (P := Try.prog) 9 27 5 Try.underlying9 Try.underlying27 Try.underlying5 a1 w3
      have har : ∀ W : World, (Instr.arrayAt 63 (.slice (some ⟨w3.heap.size, 0, none⟩) a1.size (grownCap w3 a1.size 0 5))).run Try.prog W = .ok (.pointer (some ⟨w3.heap.size, 0, none⟩)) W := fun W => run_arrayAt (P := Try.prog) W 63 5 16 _ a1.size _ Try.underlying63 (by rw [H1.out]; omega)
      obtain ⟨K, hK⟩ : ∃ K, K = expandL L a0 := ⟨_, rfl⟩
      obtain ⟨s, hs⟩ : ∃ s, s = bytesOf a1 := ⟨_, rfl⟩
      have hsl : s.length = 16 := by rw [hs, bytesOf_length, H1.out]
      rw [← hK] at hKlen hk3
      have HKE := Aside0.mk hK
      have HSE := Aside0.mk hs
      have HKL := Aside0.mk hKlen
      have HSL := Aside0.mk hsl
      have HS8 : Aside0 (U8s s) := ⟨by rw [hs]; exact bytesOf_u8 a1⟩
      have HRG : Aside0 ((Lib.bytesWorld w3 5 a1).rangeAt w3.heap.size 0 (s.map (Value.int .u8))) := ⟨fun j v hj => by
        have hj1 : j < s.length := by have := (List.getElem?_eq_some_iff.1 hj).1; simpa using this
        rw [Nat.zero_add, Lib.bytesWorld_cell w3 5 a1 j (by rw [H1.out]; omega)]
        rw [← hj, hs]
        have h' : j < a1.data.toList.length := by rw [data_length, H1.out]; omega
        simp [bytesOf, List.getD_eq_getElem?_getD, List.getElem?_eq_getElem h']⟩
      have B3 : Below w.heap.size w w3 := (below_setRow (HB1.out.alloc HB1.out.size (.cells (AK .u8 (swT 0)) 59)) (g := w1.heap.size) HB1.out.size (AK .u8 L)).trans (hb3.mono (by have := HB1.out.size; simp; omega))
      have E3 := Aside0.mk (show w3.heap[w1.heap.size]? = some (.cells (AK .u8 L) 59 (0, 0)) from (hb3.block w1.heap.size (by simp)).trans HX.out)
      have E3K := Aside0.mk (show w3.heap[w1.heap.size + 1 + 1]? = some (.cells (AK .u8 K) 5 (0, 0)) by simpa using hk3)
      have hs3 : w1.heap.size + 1 + 1 < w3.heap.size := (Array.getElem?_eq_some_iff.1 E3K.out).1
      have hb4 : Below w.heap.size w (Lib.bytesWorld w3 5 a1) := bytes_below B3 B3.size 5 a1
      have hz4 : (Lib.bytesWorld w3 5 a1).heap.size = w3.heap.size + 1 := Lib.bytesWorld_size w3 5 a1
      have E4 := Aside0.mk ((Lib.bytesWorld_at_old w3 5 a1 w1.heap.size (by omega)).trans E3.out)
      have E4K := Aside0.mk ((Lib.bytesWorld_at_old w3 5 a1 (w1.heap.size + 1 + 1) hs3).trans E3K.out)
      obtain ⟨w4, hw4⟩ : ∃ w4, w4 = Lib.bytesWorld w3 5 a1 := ⟨_, rfl⟩
      rw [← hw4] at kb HRG hb4 hz4 E4 E4K
      have HZ4 := Aside0.mk (heap_alloc_new w4 (.cells (AK .u8 [0, 0, 0, 0, 0, 0, 0, 0, 0, 0, 0, 0, 0, 0, 0, 0]) 63))
      have HB4 := Aside0.mk hb4
      have HENC : Aside0 (EncW w w1.heap.size (w1.heap.size + 1 + 1) w4.heap.size L K s ((w4.alloc (.cells (AK .u8 [0, 0, 0, 0, 0, 0, 0, 0, 0, 0, 0, 0, 0, 0, 0, 0]) 63)).setRow w4.heap.size (AK .u8 s))) := ⟨setRow_heap _ _ _ _ _ _ HZ4.out, (setRow_other _ _ _ _ (by omega)).trans ((Below.heap_alloc w4 _ _ (by omega)).trans E4.out), (setRow_other _ _ _ _ (by omega)).trans ((Below.heap_alloc w4 _ _ (by omega)).trans E4K.out), below_setRow (hb4.alloc hb4.size _) hb4.size _⟩
      have hne1 : w1.heap.size ≠ w4.heap.size := by omega
      have hne2 : w1.heap.size + 1 + 1 ≠ w4.heap.size := by omega
      have hge : w.heap.size ≤ w4.heap.size := hb4.size
      clear hKlen hsl hK hs B3 hb4 hk3 hb3 hw4 E3 E3K E4 E4K hz4 hs3 HX HZ HB1 hz
      rw [kb]
      go_wp2_with (first | (refine wpList_load_mid rfl 63 (.tmp 23) rfl w3.heap.size 0 rfl (s.map (Value.int .u8)) _ HRG.out Try.underlying63 rfl (by rw [List.length_map, HSL.out]; kernel_rfl) ?_) | (refine wpList_store_row rfl 63 (.tmp 7) (.tmp 24) rfl w4.heap.size (AK .u8 s) rfl rfl 63 (AK .u8 [0, 0, 0, 0, 0, 0, 0, 0, 0, 0, 0, 0, 0, 0, 0, 0]) HZ4.out (by rw [AK_size, HSL.out]; kernel_rfl) (by rw [AK_size, AK_size, HSL.out]; rfl) (AK_one _ _) ?_) | (go_at_call 47; refine (aes_add s K HSL.out w4.heap.size ⟨w1.heap.size + 1 + 1, 0, none⟩ 176 176 (by omega) hne2 _ HENC.out.1 (fun i hi => by rw [Addr.add_mid, Nat.zero_add]; exact AK_cell HENC.out.2.2.1 i (by rw [HKL.out]; omega))).mono ?_; rintro e w6 ⟨rfl, ht6⟩))
      have HE6 := Aside0.mk (HENC.out.turned ht6 hne1 hne2 hge)
      have HL8 : Aside0 (U8s L) := ⟨by rw [HLE.out]; exact swapsL_u8⟩
      clear ht6 HENC har HRG HZ4 HB4 kb
      go_loopw [8] (fun v8 wr => ∃ k : Nat, k ≤ 10 ∧ v8 = .int .i64 ((k : Int) + 1) ∧ Aside0 (EncW w w1.heap.size (w1.heap.size + 1 + 1) w4.heap.size L K (encS L K s k) wr)) (fun v8 _ => 11 - (intOf v8).toNat)
      case atStart => exact ⟨0, by omega, rfl, HE6⟩
      case round =>
        clear HE6
        obtain ⟨k, hk, rfl, HE⟩ := hrel
        by_cases hlt : k < 10
        · have hc : decide ((k : Int) + 1 ≤ 10) = true := decide_eq_true (by omega)
          have HEL : Aside0 ((encS L K s k).length = 16) := ⟨by rw [encS_len, HSL.out]⟩
          have HE8 : Aside0 (U8s (encS L K s k)) := ⟨encS_u8 _ _ _ HS8.out HSL.out HL8.out k⟩
          have ew : IntKind.i64.wrap (16 * ((k : Int) + 1)) = 16 * ((k : Int) + 1) := IntWalk.i64_in _ (by omega)
          have hsl : ∀ W : World, (Instr.slice 27 (.slice (some ⟨w1.heap.size + 1 + 1, 0, none⟩) 176 176) (some (.int .i64 (16 * ((k : Int) + 1)))) none none).run Try.prog W = .ok (.slice (some ⟨w1.heap.size + 1 + 1, 16 * (k + 1), none⟩) (176 - 16 * (k + 1)) (176 - 16 * (k + 1))) W := fun W => by
            rw [run_slice_l (P := Try.prog) W 27 (some ⟨w1.heap.size + 1 + 1, 0, none⟩) 176 176 (by kernel_rfl) .i64 (16 * ((k : Int) + 1)) (by omega) (by omega)]
            have hsz : (sizeOf (Try.prog.elem 27)).run Try.prog W = .ok 1 W := by kernel_rfl
            rw [hsz]
            simp only [Result.andThen, sliced]
            rw [if_neg (by omega), show (16 * ((k : Int) + 1)).toNat = 16 * (k + 1) from by omega]
            simp [Addr.add_mid]
          by_cases h9 : k < 9
          · have hd : decide ((k : Int) + 1 < 10) = true := decide_eq_true (by omega)
            go_wp2_with (first | (refine wpList_load_row rfl 59 (.tmp 5) rfl w1.heap.size rfl 59 (AK .u8 L) (0, 0) _ HE.out.2.1 Try.underlying59 rfl (by rw [AK_size, HLL.out]; kernel_rfl) ?_) | (go_at_call 48; refine (aes_shift (encS L K s k) L HEL.out HE8.out HLL.out w4.heap.size _ HE.out.1).mono ?_; rintro e w7 ⟨rfl, ht7⟩; have HE7 := Aside0.mk (HE.out.turned ht7 hne1 hne2 hge); clear ht7) | (go_at_call 49; refine (aes_mix (shS (encS L K s k) L 16) (by rw [shS_len, HEL.out]) w4.heap.size _ HE7.out.1).mono ?_; rintro e w8 ⟨rfl, ht8⟩; have HE88 := Aside0.mk (HE7.out.turned ht8 hne1 hne2 hge); clear ht8) | (go_at_call 47; refine (aes_add (mxS (shS (encS L K s k) L 16) 4) (K.drop (16 * (k + 1))) (by rw [mxS_len, shS_len, HEL.out]) w4.heap.size ⟨w1.heap.size + 1 + 1, 16 * (k + 1), none⟩ (176 - 16 * (k + 1)) (176 - 16 * (k + 1)) (by omega) hne2 _ HE88.out.1 (fun i hi => by rw [Addr.add_mid]; refine (AK_cell HE88.out.2.2.1 (16 * (k + 1) + i) (by rw [HKL.out]; omega)).trans ?_; simp [List.getD_eq_getElem?_getD])).mono ?_; rintro e w9 ⟨rfl, ht9⟩; have HE9 := Aside0.mk (HE88.out.turned ht9 hne1 hne2 hge); clear ht9))
            go_roundw
            case rel =>
              refine ⟨k + 1, by omega, by go_num, ⟨?_⟩⟩
              have e : encS L K s (k + 1) = adS (mxS (shS (encS L K s k) L 16) 4) (K.drop (16 * (k + 1))) 16 := by
                show encR L K (encS L K s k) (k + 1) = _
                unfold encR
                rw [if_pos (by omega)]
              rw [e]
              exact HE9.out
            case measure => simp [intOf]; omega
          · have hd : decide ((k : Int) + 1 < 10) = false := decide_eq_false (by omega)
            go_wp2_with (first | (refine wpList_load_row rfl 59 (.tmp 5) rfl w1.heap.size rfl 59 (AK .u8 L) (0, 0) _ HE.out.2.1 Try.underlying59 rfl (by rw [AK_size, HLL.out]; kernel_rfl) ?_) | (go_at_call 48; refine (aes_shift (encS L K s k) L HEL.out HE8.out HLL.out w4.heap.size _ HE.out.1).mono ?_; rintro e w7 ⟨rfl, ht7⟩; have HE7 := Aside0.mk (HE.out.turned ht7 hne1 hne2 hge); clear ht7) | (go_at_call 47; refine (aes_add (shS (encS L K s k) L 16) (K.drop (16 * (k + 1))) (by rw [shS_len, HEL.out]) w4.heap.size ⟨w1.heap.size + 1 + 1, 16 * (k + 1), none⟩ (176 - 16 * (k + 1)) (176 - 16 * (k + 1)) (by omega) hne2 _ HE7.out.1 (fun i hi => by rw [Addr.add_mid]; refine (AK_cell HE7.out.2.2.1 (16 * (k + 1) + i) (by rw [HKL.out]; omega)).trans ?_; simp [List.getD_eq_getElem?_getD])).mono ?_; rintro e w9 ⟨rfl, ht9⟩; have HE9 := Aside0.mk (HE7.out.turned ht9 hne1 hne2 hge); clear ht9))
            go_roundw
            case rel =>
              refine ⟨k + 1, by omega, by go_num, ⟨?_⟩⟩
              have e : encS L K s (k + 1) = adS (shS (encS L K s k) L 16) (K.drop (16 * (k + 1))) 16 := by
                show encR L K (encS L K s k) (k + 1) = _
                unfold encR
                rw [if_neg (by omega)]
              rw [e]
              exact HE9.out
            case measure => simp [intOf]; omega
        · obtain rfl : k = 10 := by omega
          have hsa : ∀ W : World, (Instr.sliceAt 63 (.pointer (some ⟨w4.heap.size, 0, none⟩)) none none none).run Try.prog W = .ok (.slice (some ⟨w4.heap.size, 0, none⟩) 16 16) W := fun W => by
            simp [Instr.sliceAt, run_underlying Try.underlying63, Instr.sliceBounds, Instr.sureAddr, Instr.sliceBound, Addr.add_mid]
          have hcv : (convert 27 9 (.slice (some ⟨w4.heap.size, 0, none⟩) 16 16)).run Try.prog wr = .ok (.string (strOfNums (encS L K s 10))) wr := by
            have HEL : (encS L K s 10).length = 16 := by rw [encS_len, HSL.out]
            refine run_convert_bytes_arg wr 27 5 Try.underlying27 Try.underlying5 w4.heap.size 0 16 16 (encS L K s 10) HEL (fun i hi => ?_) 9 Try.underlying9
            rw [Nat.zero_add]
            exact AK_cell HE.out.1 i (by rw [HEL]; exact hi)
          have HRES : Aside0 (strOfNums (encS L K s 10) = encB a0 a1) := ⟨by unfold encB; rw [HSE.out, HKE.out, HLE.out]⟩
          rw [HRES.out] at hcv
          go_wp2
          go_ret
          exact ⟨rfl, HE.out.2.2.2⟩
    · have t1 : ((a1.size : Int) != 16) = true := by rw [bne_iff_ne]; omega
      rw [if_neg (fun hh => h1 hh.2)] at h
      obtain rfl := Option.some.inj h
      clear h h0 h1
      go_enter Try.func25, Try.ntmps25
      go_wp2
      go_ret
      exact ⟨rfl, Below.refl _ _⟩
  · have t0 : ((a0.size : Int) != 16) = true := by rw [bne_iff_ne]; omega
    rw [if_neg (fun hh => h0 hh.1)] at h
    obtain rfl := Option.some.inj h
    clear h h0
    go_enter Try.func25, Try.ntmps25
    go_wp2
    go_ret
    exact ⟨rfl, Below.refl _ _⟩
end Go.Proofs.Ytkgijkfcmbpgpaa.Giv
