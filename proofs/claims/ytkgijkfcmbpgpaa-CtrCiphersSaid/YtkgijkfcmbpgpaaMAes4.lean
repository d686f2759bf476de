/- The reference's keys and its encryption, whole: the same as the program's. -/
import Derived.Test.YtkgijkfcmbpgpaaMAes3
namespace Go.Proofs.Ytkgijkfcmbpgpaa.Giv
open Go.RowKit Go.Proofs.YtkgijkfcmbpgpaaW.PrintWords Go.Proofs.YtkgijkfcmbpgpaaW.PrintLast Go.Proofs.YtkgijkfcmbpgpaaW.PrintMore Go.Proofs.Ytkgijkfcmbpgpaa.PAll
set_option linter.unusedVariables false
set_option linter.unusedSimpArgs false

theorem strN_size (l : List Int) : (strOfNums l).size = l.length := by simp [strOfNums, ByteArray.size]
theorem bytesOf_at (s : ByteArray) (i : Nat) : (bytesOf s).getD i 0 = bt s (i : Int) := by
  unfold bt
  by_cases h : i < s.size
  · rw [dif_pos (by simpa using h)]
    have h' : i < s.data.toList.length := by rw [data_length]; exact h
    simp only [bytesOf, List.getD_eq_getElem?_getD, List.getElem?_map, List.getElem?_eq_getElem h', Option.map_some, Option.getD_some, Int.toNat_natCast]
    rfl
  · rw [dif_neg (by simpa using h)]
    have h' : s.data.toList.length ≤ i := by rw [data_length]; omega
    simp [bytesOf, List.getD_eq_getElem?_getD, List.getElem?_eq_none h']
theorem strN_at (l : List Int) (h8 : U8s l) (i : Nat) (hi : i < l.length) : bt (strOfNums l) (i : Int) = l.getD i 0 := by
  rw [← bytesOf_at]
  have h := h8 _ (List.getElem_mem hi)
  unfold U8 at h
  have e : (bytesOf (strOfNums l)).getD i 0 = ((UInt8.ofNat (l[i]).toNat).toNat : Int) := by
    simp [bytesOf, strOfNums, List.getD_eq_getElem?_getD, hi]
  rw [e, List.getD_eq_getElem?_getD, List.getElem?_eq_getElem hi, Option.getD_some, UInt8.toNat_ofNat']
  omega
theorem bl_u8 {f : Nat → Int} {s : List Int} (n : Nat) (hf : ∀ i, U8 (f i)) (hs : U8s s) : U8s (bl f s n) := by
  intro x hx
  obtain ⟨i, hi, rfl⟩ := List.mem_map.1 hx
  show U8 (if i < n then f i else s.getD i 0)
  split
  · exact hf i
  · obtain ⟨m, hm, e⟩ := hs.get i
    rw [e]; unfold U8; omega
theorem z16_u8 : U8s z16 := fun x hx => by
  have := (List.mem_replicate.1 hx).2
  subst this
  unfold U8; omega

/-! The keys. -/
theorem exR_u8 (t B : List Int) : ∀ m, U8 (exS t B m).2
  | 0 => by show U8 1; unfold U8; omega
  | m + 1 => by
    show U8 (exR (exS t B m).2 (16 + 4 * m))
    unfold exR
    split
    · obtain ⟨r, hr, e⟩ := nat_of_u8 (exR_u8 t B m)
      rw [e, tw_nat r hr]
      have := tN_lt r
      unfold U8; omega
    · exact exR_u8 t B m
theorem rx2 (T : List Int) (B w : List Int) (hB : B.length = 176) (hw : w.length = 4) (r : Int) (m : Nat) (hm : m < 40) : ∀ (d j k : Nat), j + d = 4 →
    legateref04_Expand.l2 (k + d + 1) T (exPut B w (16 + 4 * m) j) r ((4 + m : Nat) : Int) w (j : Int) = legateref04_Expand.l1 k T (exPut B w (16 + 4 * m) 4) r ((4 + (m + 1) : Nat) : Int) := by
  intro d
  induction d with
  | zero =>
    intro j k hj
    obtain rfl : j = 4 := by omega
    have E := Aside0.mk (show wrap64 (((4 + m : Nat) : Int) + 1) = ((4 + (m + 1) : Nat) : Int) from by unfold wrap64; omega)
    rw [Nat.add_zero, legateref04_Expand.l2, if_neg (by omega), E.out]
  | succ d ih =>
    intro j k hj
    have E1 := Aside0.mk (show wrap64 (4 * ((4 + m : Nat) : Int)) = ((16 + 4 * m : Nat) : Int) from by unfold wrap64; omega)
    have E2 := Aside0.mk (show wrap64 (((16 + 4 * m : Nat) : Int) - 16) = ((4 * m : Nat) : Int) from by unfold wrap64; omega)
    have E3 := Aside0.mk (show wrap64 (((4 * m : Nat) : Int) + (j : Int)) = ((16 + 4 * m + j - 16 : Nat) : Int) from by unfold wrap64; omega)
    have E4 := Aside0.mk (show wrap64 (((16 + 4 * m : Nat) : Int) + (j : Int)) = ((16 + 4 * m + j : Nat) : Int) from by unfold wrap64; omega)
    have E5 := Aside0.mk (show wrap64 ((j : Int) + 1) = ((j + 1 : Nat) : Int) from by unfold wrap64; omega)
    have hl := exPut_len B w (16 + 4 * m) j
    rw [show k + (d + 1) + 1 = (k + d + 1) + 1 from by omega, legateref04_Expand.l2, E1.out, E2.out, E3.out, E4.out, E5.out, if_pos (by omega), if_pos (by omega), if_pos (by omega), if_pos (by omega), if_pos (by omega), if_pos (by omega), if_pos (by omega), rdN', rdN', Int.toNat_natCast]
    exact ih (j + 1) k (by omega)
theorem rdX (T : List Int) (n : Nat) : rd T (n : Int) = T.getD n 0 := rdN' T n
theorem exW_pos (t B : List Int) (r : Int) (i : Nat) (h : i % 16 = 0) : exW t B r i = [x8 (t.getD (B.getD (i - 3) 0).toNat 0) r, t.getD (B.getD (i - 2) 0).toNat 0, t.getD (B.getD (i - 1) 0).toNat 0, t.getD (B.getD (i - 4) 0).toNat 0] := by
  unfold exW; rw [if_pos h]
theorem exW_neg (t B : List Int) (r : Int) (i : Nat) (h : ¬ i % 16 = 0) : exW t B r i = [B.getD (i - 4) 0, B.getD (i - 3) 0, B.getD (i - 2) 0, B.getD (i - 1) 0] := by
  unfold exW; rw [if_neg h]
theorem exR_pos (r : Int) (i : Nat) (h : i % 16 = 0) : exR r i = tw r := by unfold exR; rw [if_pos h]
theorem exR_neg (r : Int) (i : Nat) (h : ¬ i % 16 = 0) : exR r i = r := by unfold exR; rw [if_neg h]
theorem rx1 (T : List Int) (hT : T.length = 256) (B : List Int) (hB : B.length = 176) (h8 : U8s B) (m k : Nat) (hm : m < 40) (hk : 20 ≤ k) :
    legateref04_Expand.l1 (k + 7) T (exS T B m).1 (exS T B m).2 ((4 + m : Nat) : Int) = legateref04_Expand.l1 k T (exS T B (m + 1)).1 (exS T B (m + 1)).2 ((4 + (m + 1) : Nat) : Int) := by
  have hl : (exS T B m).1.length = 176 := by rw [exS_len, hB]
  have hu := exS_u8 T B h8 m
  obtain ⟨r, hr, er⟩ := nat_of_u8 (exR_u8 T B m)
  obtain ⟨L, hL⟩ : ∃ L, L = (exS T B m).1 := ⟨_, rfl⟩
  have hS1 : (exS T B (m + 1)).1 = exPut L (exW T L (exS T B m).2 (16 + 4 * m)) (16 + 4 * m) 4 := by rw [hL]; rfl
  have hS2 : (exS T B (m + 1)).2 = exR (exS T B m).2 (16 + 4 * m) := rfl
  rw [hS1, hS2, ← hL, er]
  rw [← hL] at hl hu
  clear hS1 hS2 hL er
  have hx2 : ∀ (w : List Int) (r : Int), w.length = 4 → legateref04_Expand.j2 (k + 4 + 1 + 1) T L r ((4 + m : Nat) : Int) w = legateref04_Expand.l1 k T (exPut L w (16 + 4 * m) 4) r ((4 + (m + 1) : Nat) : Int) := fun w r hw => by
    rw [legateref04_Expand.j2]
    exact rx2 T L w hl hw r m hm 4 0 k (by omega)
  obtain ⟨i, hi⟩ : ∃ i, i = 16 + 4 * m := ⟨_, rfl⟩
  rw [← hi] at hx2 ⊢
  obtain ⟨a, ha, ea_⟩ := hu.get (i - 4)
  obtain ⟨b, hb, eb_⟩ := hu.get (i - 3)
  obtain ⟨c, hc, ec_⟩ := hu.get (i - 2)
  obtain ⟨d, hd, ed_⟩ := hu.get (i - 1)
  have EA := Aside0.mk ea_
  have EB := Aside0.mk eb_
  have EC := Aside0.mk ec_
  have ED := Aside0.mk ed_
  clear ea_ eb_ ec_ ed_
  have E1 := Aside0.mk (show wrap64 (4 * ((4 + m : Nat) : Int)) = (i : Int) from by unfold wrap64; omega)
  have E2 := Aside0.mk (show wrap64 ((i : Int) - 4) = ((i - 4 : Nat) : Int) from by unfold wrap64; omega)
  have E3 := Aside0.mk (show wrap64 ((i : Int) - 3) = ((i - 3 : Nat) : Int) from by unfold wrap64; omega)
  have E4 := Aside0.mk (show wrap64 ((i : Int) - 2) = ((i - 2 : Nat) : Int) from by unfold wrap64; omega)
  have E5 := Aside0.mk (show wrap64 ((i : Int) - 1) = ((i - 1 : Nat) : Int) from by unfold wrap64; omega)
  rw [show k + 7 = (k + 4 + 1 + 1) + 1 from by omega, legateref04_Expand.l1, E1.out, E2.out, E3.out, E4.out, E5.out]
  clear E1 E2 E3 E4 E5
  rw [if_pos (by omega), if_pos (by omega), if_pos (by omega), if_pos (by omega), if_pos (by omega), if_pos (by omega), if_pos (by omega), if_pos (by omega), if_pos (by omega), rdN', rdN', rdN', rdN', EA.out, EB.out, EC.out, ED.out]
  simp only [Option.bind_some]
  have EM := Aside0.mk (show (Int.tmod ((4 + m : Nat) : Int) 4 = 0) ↔ i % 16 = 0 from by
    rw [Int.tmod_eq_emod_of_nonneg (by omega)]; omega)
  by_cases h0 : i % 16 = 0
  · have q0 : rd [(a : Int), (b : Int), (c : Int), (d : Int)] 0 = (a : Int) := rfl
    have q1 : rd [(a : Int), (b : Int), (c : Int), (d : Int)] 1 = (b : Int) := rfl
    have q2 : rd [(a : Int), (b : Int), (c : Int), (d : Int)] 2 = (c : Int) := rfl
    have q3 : rd [(a : Int), (b : Int), (c : Int), (d : Int)] 3 = (d : Int) := rfl
    have ql : [(a : Int), (b : Int), (c : Int), (d : Int)].length = 4 := rfl
    have t2_ := ref_times (k + 4 + 1 + 1) r 2 (by omega) hr (by omega)
    rw [mB_two] at t2_
    have T2 := Aside0.mk t2_
    clear t2_
    rw [if_pos (EM.out.2 h0), ql, q0, q1, q2, q3, if_pos (by omega), if_pos (by omega), if_pos (by omega), if_pos (by omega), if_pos (by omega), if_pos (by omega), if_pos (by omega), if_pos (by omega), if_pos (by omega), if_pos (by omega), if_pos (by omega), if_pos (by omega)]
    have t2' : legateref04_Times.f (k + 4 + 1 + 1) (r : Int) 2 = some (tN r : Int) := T2.out
    rw [t2', Option.bind_some, hx2 _ _ rfl, rdX, rdX, rdX, rdX]
    rewrite [exR_pos _ _ h0, exW_pos _ _ _ _ h0, tw_nat r hr, EA.out, EB.out, EC.out, ED.out, Int.toNat_natCast, Int.toNat_natCast, Int.toNat_natCast, Int.toNat_natCast]
    rfl
  · rw [if_neg (fun h => h0 (EM.out.1 h)), hx2 _ _ rfl]
    rewrite [exR_neg _ _ h0, exW_neg _ _ _ _ h0, EA.out, EB.out, EC.out, ED.out]
    rfl
theorem rx1_run (T : List Int) (hT : T.length = 256) (B : List Int) (hB : B.length = 176) (h8 : U8s B) : ∀ (d m k : Nat), m + d = 40 → 20 ≤ k →
    legateref04_Expand.l1 (k + 7 * d) T (exS T B m).1 (exS T B m).2 ((4 + m : Nat) : Int) = some (strOfNums (exS T B 40).1) := by
  intro d
  induction d with
  | zero =>
    intro m k hm hk
    obtain rfl : m = 40 := by omega
    obtain ⟨k, rfl⟩ : ∃ j, k = j + 1 := ⟨k - 1, by omega⟩
    rw [show k + 1 + 7 * 0 = k + 1 from by omega, legateref04_Expand.l1, if_neg (by omega)]
  | succ d ih =>
    intro m k hm hk
    rw [show k + 7 * (d + 1) = (k + 7 * d) + 7 from by omega, rx1 T hT B hB h8 m (k + 7 * d) (by omega) (by omega)]
    exact ih (m + 1) k (by omega) hk
def z176 : List Int := List.replicate 176 0
theorem z176_len : z176.length = 176 := List.length_replicate
theorem rep_at (n i : Nat) : (List.replicate n (0 : Int)).getD i 0 = 0 := by
  rw [List.getD_eq_getElem?_getD, List.getElem?_replicate]
  split <;> rfl
theorem head_bl (key : ByteArray) (hk : key.size = 16) : headB key 176 = bl (fun i => bt key (i : Int)) z176 16 := by
  have hb := bytesOf_length key
  refine list_ext (by rw [headB_len _ _ (by omega), bl_len, z176_len]) fun i hi => ?_
  rw [headB_len _ _ (by omega)] at hi
  rw [bl_at _ _ _ _ (by rw [z176_len]; exact hi)]
  unfold headB
  by_cases h : i < 16
  · rw [if_pos h, ← bytesOf_at]
    simp [List.getD_eq_getElem?_getD, List.getElem?_append_left (show i < (bytesOf key).length by omega)]
  · rw [if_neg h]
    simp only [List.getD_eq_getElem?_getD]
    rw [List.getElem?_append_right (by omega)]
    have h1 : z176[i]?.getD 0 = 0 := by rw [← List.getD_eq_getElem?_getD]; exact rep_at 176 i
    rw [h1, ← List.getD_eq_getElem?_getD]
    exact rep_at _ _
theorem rx0 (T : List Int) (key : ByteArray) (hk : key.size = 16) : ∀ (d i k : Nat), i + d = 16 →
    legateref04_Expand.l0 (k + d + 1) T key (bl (fun i => bt key (i : Int)) z176 i) (i : Int) = legateref04_Expand.l1 k T (headB key 176) 1 4 := by
  intro d
  induction d with
  | zero =>
    intro i k hi
    obtain rfl : i = 16 := by omega
    rw [Nat.add_zero, legateref04_Expand.l0, if_neg (by omega), head_bl key hk]
  | succ d ih =>
    intro i k hi
    have e : wrap64 ((i : Int) + 1) = ((i + 1 : Nat) : Int) := by unfold wrap64; omega
    have hz := z176_len
    rw [show k + (d + 1) + 1 = (k + d + 1) + 1 from by omega, legateref04_Expand.l0, e, if_pos (by omega), if_pos (by omega), if_pos (by omega), if_pos (by rw [bl_len]; omega), Int.toNat_natCast, bl_set (fun i => bt key (i : Int))]
    exact ih (i + 1) k (by omega)
/-- The reference's keys are the program's. -/
theorem ref_expand (T : List Int) (hT : T.length = 256) (key : ByteArray) (k : Nat) (hk : 400 ≤ k) :
    legateref04_Expand.f k T key = some (if key.size = 16 then strOfNums (expandL T key) else ⟨#[]⟩) := by
  unfold legateref04_Expand.f
  by_cases h : key.size = 16
  · rw [if_pos (by omega), if_pos (by omega), if_pos h]
    obtain ⟨j, rfl⟩ : ∃ j, k = (j + 7 * 40) + 16 + 1 := ⟨k - 297, by omega⟩
    have := rx0 T key h 16 0 (j + 7 * 40) (by omega)
    rw [bl_zero] at this
    refine this.trans ?_
    exact rx1_run T hT (headB key 176) (headB_len _ _ (by omega)) (headB_u8 key 176) 40 0 j (by omega) (by omega)
  · rw [if_neg (by omega), if_neg h]

/-! The encryption. -/
theorem rnd (T : List Int) (hT : T.length = 256) (hT8 : U8s T) (K : List Int) (hK : K.length = 176) (hK8 : U8s K) (S : List Int) (hS : S.length = 16) (h8 : U8s S) (R k : Nat) (h1 : 1 ≤ R) (hR : R ≤ 10) (hk : 20 ≤ k) :
    legateref04_Encrypt.l1 (k + 68) T (strOfNums K) S (R : Int) = legateref04_Encrypt.l1 k T (strOfNums K) (encR T K S R) ((R + 1 : Nat) : Int) := by
  have hKs : (strOfNums K).size = 176 := by rw [strN_size, hK]
  have hA8 : ∀ i, U8 (aF T S i) := fun i => by
    obtain ⟨n, hn, e⟩ := hT8.get (S.getD (shJ i) 0).toNat
    show U8 (T.getD (S.getD (shJ i) 0).toNat 0)
    rw [e]; unfold U8; omega
  obtain ⟨A, hA⟩ : ∃ A, A = bl (aF T S) z16 16 := ⟨_, rfl⟩
  have hAl : A.length = 16 := by rw [hA, bl_len]; rfl
  have hAu : U8s A := by rw [hA]; exact bl_u8 16 hA8 z16_u8
  have s2 := rl2 T hT (strOfNums K) S hS h8 R 4 0 (k + 16 + 1 + 6 * 4 + 1) (by omega)
  have s4 := rl4 T (strOfNums K) S R A hAl hAu 4 0 (k + 16 + 1) (by omega) (by omega)
  rw [show 4 * 0 = 0 from rfl, bl_zero] at s2 s4
  rw [← hA] at s2
  have s6 := rl6 T (strOfNums K) R hR hKs (bl (uF A R) z16 16) S (by rw [bl_len]; rfl) hS 16 0 k (by omega)
  rw [bl_zero] at s6
  rw [show k + 68 = (k + 16 + 1 + 6 * 4 + 1 + 6 * 4 + 1) + 1 from by omega, legateref04_Encrypt.l1, if_pos (by omega), if_pos (by omega)]
  refine s2.trans (s4.trans (s6.trans ?_))
  congr 1
  have eA : shS S T 16 = A := by
    rw [shS_bl, hA]
    exact bl_full (by rw [hS]; rfl) 16 (by omega) fun i _ => rfl
  have eU : ∀ i, i < 16 → (bl (uF A R) z16 16).getD i 0 = uF A R i := fun i hi => by rw [bl_at _ _ _ _ (by rw [z16_len]; exact hi), if_pos hi]
  have eK : ∀ i, i < 16 → bt (strOfNums K) ((16 * R + i : Nat) : Int) = (K.drop (16 * R)).getD i 0 := fun i hi => by
    rw [strN_at K hK8 _ (by omega)]
    simp [List.getD_eq_getElem?_getD, List.getElem?_drop]
  unfold encR
  rw [eA]
  by_cases h : R < 10
  · rw [if_pos h, adS_bl _ _ 16 (by rw [mxS_len, hAl]; omega)]
    refine bl_full (by rw [mxS_len, hS, hAl]) 16 (by omega) fun i hi => ?_
    rw [hS] at hi
    rw [eU i hi, eK i hi, mxS_bl A hAl 4 (by omega), bl_at _ _ _ _ (by omega), if_pos (by omega)]
    unfold uF
    rw [if_pos h]
    rfl
  · rw [if_neg h, adS_bl _ _ 16 (by omega)]
    refine bl_full (by rw [hS, hAl]) 16 (by omega) fun i hi => ?_
    rw [hS] at hi
    rw [eU i hi, eK i hi]
    unfold uF
    rw [if_neg h]
    rfl
theorem rnds (T : List Int) (hT : T.length = 256) (hT8 : U8s T) (K : List Int) (hK : K.length = 176) (hK8 : U8s K) (S : List Int) (hS : S.length = 16) (h8 : U8s S) : ∀ (d R k : Nat), R + d = 10 → 20 ≤ k →
    legateref04_Encrypt.l1 (k + 68 * d) T (strOfNums K) (encS T K S R) ((R + 1 : Nat) : Int) = some (strOfNums (encS T K S 10)) := by
  intro d
  induction d with
  | zero =>
    intro R k hR hk
    obtain rfl : R = 10 := by omega
    obtain ⟨k, rfl⟩ : ∃ j, k = j + 1 := ⟨k - 1, by omega⟩
    rw [show k + 1 + 68 * 0 = k + 1 from by omega, legateref04_Encrypt.l1, if_neg (by omega)]
  | succ d ih =>
    intro R k hR hk
    rw [show k + 68 * (d + 1) = (k + 68 * d) + 68 from by omega, rnd T hT hT8 K hK hK8 (encS T K S R) (by rw [encS_len, hS]) (encS_u8 T K S h8 hS hT8 R) (R + 1) (k + 68 * d) (by omega) (by omega) (by omega)]
    exact ih (R + 1) k (by omega) hk
theorem rl0 (T : List Int) (blk : ByteArray) (hb : blk.size = 16) (Kb : ByteArray) (hK : Kb.size = 176) : ∀ (d i k : Nat), i + d = 16 →
    legateref04_Encrypt.l0 (k + d + 1) T blk Kb (bl (fun i => Go.bits .xor .u8 (bt blk (i : Int)) (bt Kb (i : Int))) z16 i) (i : Int) = legateref04_Encrypt.l1 k T Kb (bl (fun i => Go.bits .xor .u8 (bt blk (i : Int)) (bt Kb (i : Int))) z16 16) 1 := by
  intro d
  induction d with
  | zero =>
    intro i k hi
    obtain rfl : i = 16 := by omega
    rw [Nat.add_zero, legateref04_Encrypt.l0, if_neg (by omega)]
  | succ d ih =>
    intro i k hi
    have e : wrap64 ((i : Int) + 1) = ((i + 1 : Nat) : Int) := by unfold wrap64; omega
    have hz := z16_len
    rw [show k + (d + 1) + 1 = (k + d + 1) + 1 from by omega, legateref04_Encrypt.l0, e, if_pos (by omega), if_pos (by omega), if_pos (by omega), if_pos (by omega), if_pos (by rw [bl_len]; omega), Int.toNat_natCast, bl_set (fun i => Go.bits .xor .u8 (bt blk (i : Int)) (bt Kb (i : Int)))]
    exact ih (i + 1) k (by omega)
/-- The reference's encryption is the program's. -/
theorem ref_encrypt (T : List Int) (hT : T.length = 256) (hT8 : U8s T) (key blk : ByteArray) (k : Nat) (hk : 2000 ≤ k) :
    legateref04_Encrypt.f k T key blk = some (if key.size = 16 ∧ blk.size = 16 then strOfNums (encS T (expandL T key) (bytesOf blk) 10) else ⟨#[]⟩) := by
  have out : legateref04_Encrypt.j0 k T key blk true = some ⟨#[]⟩ := by
    obtain ⟨k, rfl⟩ : ∃ j, k = j + 1 := ⟨k - 1, by omega⟩
    rw [legateref04_Encrypt.j0, if_pos rfl]
  unfold legateref04_Encrypt.f
  by_cases h1 : key.size = 16
  · rw [if_pos (by omega)]
    by_cases h2 : blk.size = 16
    · have e : ((blk.size : Int) != 16) = false := by simp [h2]
      have hE : (expandL T key).length = 176 := by unfold expandL; rw [exS_len, headB_len _ _ (by omega)]
      have hE8 : U8s (expandL T key) := exS_u8 T _ (headB_u8 key 176) 40
      have hEs : (strOfNums (expandL T key)).size = 176 := by rw [strN_size, hE]
      have hbl : (bytesOf blk).length = 16 := by rw [bytesOf_length, h2]
      rw [e, if_pos ⟨h1, h2⟩]
      obtain ⟨j, rfl⟩ : ∃ j, k = ((j + 68 * 10) + 16 + 1) + 1 := ⟨k - 698, by omega⟩
      rw [legateref04_Encrypt.j0, if_neg (by simp), ref_expand T hT key _ (by omega), if_pos h1]
      simp only [Option.bind_some]
      rw [if_pos (by omega)]
      have s0 := rl0 T blk h2 (strOfNums (expandL T key)) hEs 16 0 (j + 68 * 10) (by omega)
      rw [bl_zero] at s0
      refine s0.trans ?_
      have eS : bl (fun i => Go.bits .xor .u8 (bt blk (i : Int)) (bt (strOfNums (expandL T key)) (i : Int))) z16 16 = encS T (expandL T key) (bytesOf blk) 0 := by
        show _ = adS (bytesOf blk) (expandL T key) 16
        rw [adS_bl _ _ 16 (by omega)]
        refine bl_full (by rw [hbl]; rfl) 16 (by rw [z16_len]; omega) fun i hi => ?_
        rw [z16_len] at hi
        show Go.bits .xor .u8 _ _ = Go.bits .xor .u8 _ _
        rw [bytesOf_at, strN_at _ hE8 i (by omega)]
      rw [eS]
      exact rnds T hT hT8 _ hE hE8 (bytesOf blk) hbl (bytesOf_u8 blk) 10 0 j (by omega) (by omega)
    · have e : ((blk.size : Int) != 16) = true := by rw [bne_iff_ne]; omega
      rw [e, if_neg (fun h => h2 h.2), out]
  · rw [if_neg (by omega), if_neg (fun h => h1 h.1), out]
theorem sboxL_u8 : U8s sboxL := by rw [← swaps_box]; exact swapsL_u8
theorem ref_enc (key blk : ByteArray) (k : Nat) (hk : 2000 ≤ k) : legateref04_Encrypt.f k sboxL key blk = aes_Encrypt.f key blk := by
  rw [ref_encrypt sboxL sboxL_len sboxL_u8 key blk k hk]
  unfold aes_Encrypt.f encB
  rw [swaps_box]
  split <;> rfl
end Go.Proofs.Ytkgijkfcmbpgpaa.Giv
