/- AesUnlike: two blocks come out unlike with the same key. -/
import Derived.Test.YtkgijkfcmbpgpaaMAesT
import Derived.Test.YtkgijkfcmbpgpaaMAes4
import Derived.Test.YtkgijkfcmbpgpaaPAllx5
namespace Go.Proofs.Ytkgijkfcmbpgpaa.Pure
open Go.RowKit Go.Proofs.Ytkgijkfcmbpgpaa.PAll Go.Proofs.YtkgijkfcmbpgpaaW.PrintWords Go.Proofs.YtkgijkfcmbpgpaaW.PrintLast
open Go.Proofs.Ytkgijkfcmbpgpaa.Giv
set_option linter.unusedVariables false
set_option linter.unusedSimpArgs false

theorem x8_cancel {L M : List Int} (hL : U8s L) (hM : U8s M) (i : Nat) (k : Int) (hk : U8 k) (h : x8 (L.getD i 0) k = x8 (M.getD i 0) k) : L.getD i 0 = M.getD i 0 := by
  obtain ⟨a, ha, ea⟩ := hL.get i
  obtain ⟨b, hb, eb⟩ := hM.get i
  obtain ⟨c, hc, rfl⟩ := nat_of_u8 hk
  rw [ea, eb, x8N a c ha hc, x8N b c hb hc] at h
  have h2 : a ^^^ c = b ^^^ c := by omega
  have h3 : (a ^^^ c) ^^^ c = (b ^^^ c) ^^^ c := by rw [h2]
  rw [Nat.xor_assoc, Nat.xor_self, Nat.xor_zero, Nat.xor_assoc, Nat.xor_self, Nat.xor_zero] at h3
  rw [ea, eb, h3]
theorem ad_inj {s s' K : List Int} (hs : s.length = 16) (hs' : s'.length = 16) (h8 : U8s s) (h8' : U8s s') (hK : U8s K) (h : adS s K 16 = adS s' K 16) : s = s' := by
  rw [adS_bl s K 16 (by omega), adS_bl s' K 16 (by omega)] at h
  refine list_ext (by omega) fun i hi => ?_
  have e : (bl (fun i => x8 (s.getD i 0) (K.getD i 0)) s 16).getD i 0 = (bl (fun i => x8 (s'.getD i 0) (K.getD i 0)) s' 16).getD i 0 := by rw [h]
  rw [bl_at _ _ _ _ hi, bl_at _ _ _ _ (by omega), if_pos (by omega), if_pos (by omega)] at e
  obtain ⟨c, hc, ec⟩ := hK.get i
  exact x8_cancel h8 h8' i _ (by rw [ec]; unfold U8; omega) e
theorem shJ_onto : ∀ j : Nat, j < 16 → ∃ i, i < 16 ∧ shJ i = j := by decide
theorem sh_inj {s s' : List Int} (hs : s.length = 16) (hs' : s'.length = 16) (h8 : U8s s) (h8' : U8s s') (h : shS s sboxL 16 = shS s' sboxL 16) : s = s' := by
  rw [shS_bl, shS_bl] at h
  refine list_ext (by omega) fun j hj => ?_
  obtain ⟨i, hi, rfl⟩ := shJ_onto j (by omega)
  have e : (bl (fun i => sboxL.getD (s.getD (shJ i) 0).toNat 0) s 16).getD i 0 = (bl (fun i => sboxL.getD (s'.getD (shJ i) 0).toNat 0) s' 16).getD i 0 := by rw [h]
  rw [bl_at _ _ _ _ (by omega), bl_at _ _ _ _ (by omega), if_pos (by omega), if_pos (by omega)] at e
  obtain ⟨a, ha, ea⟩ := h8.get (shJ i)
  obtain ⟨b, hb, eb⟩ := h8'.get (shJ i)
  rw [ea, eb, Int.toNat_natCast, Int.toNat_natCast, (sb_nat a ha).1, (sb_nat b hb).1] at e
  rw [ea, eb, sb_inj ha hb (by omega)]
def m1N (a b c d : Nat) : Nat := ((tN a ^^^ (b ^^^ tN b)) ^^^ c) ^^^ d
def n1N (a c : Nat) : Nat := a ^^^ tN (tN a) ^^^ tN (tN c)
theorem m2N (a b c d : Nat) : m1N (m1N a b c d) (m1N b c d a) (m1N c d a b) (m1N d a b c) = n1N a c := by
  simp only [m1N, n1N, tN_lin _ _]
  apply Nat.eq_of_testBit_eq
  intro i
  simp only [Nat.testBit_xor]
  generalize a.testBit i = p1
  generalize b.testBit i = p2
  generalize c.testBit i = p3
  generalize d.testBit i = p4
  generalize (tN a).testBit i = q1
  generalize (tN b).testBit i = q2
  generalize (tN c).testBit i = q3
  generalize (tN d).testBit i = q4
  generalize (tN (tN a)).testBit i = r1
  generalize (tN (tN b)).testBit i = r2
  generalize (tN (tN c)).testBit i = r3
  revert p1 p2 p3 p4 q1 q2 q3 q4 r1 r2 r3
  decide
theorem n2N (a c : Nat) : n1N (n1N a c) (n1N c a) = a := by
  simp only [n1N, tN_lin _ _]
  apply Nat.eq_of_testBit_eq
  intro i
  simp only [Nat.testBit_xor]
  generalize a.testBit i = p1
  generalize (tN (tN a)).testBit i = q1
  generalize (tN (tN c)).testBit i = q2
  generalize (tN (tN (tN (tN a)))).testBit i = r1
  generalize (tN (tN (tN (tN c)))).testBit i = r2
  revert p1 q1 q2 r1 r2
  decide
theorem mxV_nat (s : List Int) (h : U8s s) (c r : Nat) (hr : r < 4) (a b x y : Nat) (ha : a < 256) (hb : b < 256) (hx : x < 256) (hy : y < 256) (ea : s.getD (4 * c + r) 0 = (a : Int)) (eb : s.getD (4 * c + (r + 1) % 4) 0 = (b : Int)) (ex : s.getD (4 * c + (r + 2) % 4) 0 = (x : Int)) (ey : s.getD (4 * c + (r + 3) % 4) 0 = (y : Int)) :
    mxV s (4 * c + r) = (m1N a b x y : Int) := by
  have z : x8 (x8 (x8 (s.getD (4 * c) 0) (s.getD (4 * c + 1) 0)) (s.getD (4 * c + 2) 0)) (s.getD (4 * c + 3) 0) = ((a ^^^ b ^^^ x ^^^ y : Nat) : Int) := by
    have h4 : r = 0 ∨ r = 1 ∨ r = 2 ∨ r = 3 := by omega
    have A : ∀ p q u v : Nat, p < 256 → q < 256 → u < 256 → v < 256 → x8 (x8 (x8 (p : Int) (q : Int)) (u : Int)) (v : Int) = ((p ^^^ q ^^^ u ^^^ v : Nat) : Int) := fun p q u v h1 h2 h3 h4 => by
      rw [x8N _ _ h1 h2, x8N _ _ (xor_lt h1 h2) h3, x8N _ _ (xor_lt (xor_lt h1 h2) h3) h4]
    rcases h4 with rfl | rfl | rfl | rfl
    · simp only [Nat.add_zero, Nat.reduceAdd, Nat.reduceMod] at ea eb ex ey
      rw [ea, eb, ex, ey, A _ _ _ _ ha hb hx hy]
    · simp only [Nat.add_zero, Nat.reduceAdd, Nat.reduceMod] at ea eb ex ey
      rw [ea, eb, ex, ey, A _ _ _ _ hy ha hb hx]
      congr 1
      ac_rfl
    · simp only [Nat.add_zero, Nat.reduceAdd, Nat.reduceMod] at ea eb ex ey
      rw [ea, eb, ex, ey, A _ _ _ _ hx hy ha hb]
      congr 1
      ac_rfl
    · simp only [Nat.add_zero, Nat.reduceAdd, Nat.reduceMod] at ea eb ex ey
      rw [ea, eb, ex, ey, A _ _ _ _ hb hx hy ha]
      congr 1
      ac_rfl
  have m1 : (4 * c + r) / 4 = c := by omega
  have m2 : ((4 * c + r) % 4 + 1) % 4 = (r + 1) % 4 := by omega
  have zl : a ^^^ b ^^^ x ^^^ y < 256 := xor_lt (xor_lt (xor_lt ha hb) hx) hy
  unfold mxV m1N
  rw [m1, m2, z, ea, eb, x8N a b ha hb, tw_nat _ (xor_lt ha hb), x8N _ _ zl (tN_lt _), x8N _ _ ha (xor_lt zl (tN_lt _)), mix_same]
theorem mx_inj {s s' : List Int} (hs : s.length = 16) (hs' : s'.length = 16) (h8 : U8s s) (h8' : U8s s') (h : mxS s 4 = mxS s' 4) : s = s' := by
  rw [mxS_bl s hs 4 (by omega), mxS_bl s' hs' 4 (by omega)] at h
  have e : ∀ i, i < 16 → mxV s i = mxV s' i := fun i hi => by
    have e : (bl (mxV s) s (4 * 4)).getD i 0 = (bl (mxV s') s' (4 * 4)).getD i 0 := by rw [h]
    rwa [bl_at _ _ _ _ (by omega), bl_at _ _ _ _ (by omega), if_pos (by omega), if_pos (by omega)] at e
  have col : ∀ c, c < 4 → ∀ r, r < 4 → s.getD (4 * c + r) 0 = s'.getD (4 * c + r) 0 := by
    intro c hc
    obtain ⟨a, ha, ea⟩ := h8.get (4 * c + 0)
    obtain ⟨b, hb, eb⟩ := h8.get (4 * c + 1)
    obtain ⟨x, hx, ex⟩ := h8.get (4 * c + 2)
    obtain ⟨y, hy, ey⟩ := h8.get (4 * c + 3)
    obtain ⟨a', ha', ea'⟩ := h8'.get (4 * c + 0)
    obtain ⟨b', hb', eb'⟩ := h8'.get (4 * c + 1)
    obtain ⟨x', hx', ex'⟩ := h8'.get (4 * c + 2)
    obtain ⟨y', hy', ey'⟩ := h8'.get (4 * c + 3)
    have f0 := e (4 * c + 0) (by omega)
    have f1 := e (4 * c + 1) (by omega)
    have f2 := e (4 * c + 2) (by omega)
    have f3 := e (4 * c + 3) (by omega)
    rw [mxV_nat s h8 c 0 (by omega) a b x y ha hb hx hy ea eb ex ey, mxV_nat s' h8' c 0 (by omega) a' b' x' y' ha' hb' hx' hy' ea' eb' ex' ey'] at f0
    rw [mxV_nat s h8 c 1 (by omega) b x y a hb hx hy ha eb ex ey ea, mxV_nat s' h8' c 1 (by omega) b' x' y' a' hb' hx' hy' ha' eb' ex' ey' ea'] at f1
    rw [mxV_nat s h8 c 2 (by omega) x y a b hx hy ha hb ex ey ea eb, mxV_nat s' h8' c 2 (by omega) x' y' a' b' hx' hy' ha' hb' ex' ey' ea' eb'] at f2
    rw [mxV_nat s h8 c 3 (by omega) y a b x hy ha hb hx ey ea eb ex, mxV_nat s' h8' c 3 (by omega) y' a' b' x' hy' ha' hb' hx' ey' ea' eb' ex'] at f3
    have g0 : m1N a b x y = m1N a' b' x' y' := by exact_mod_cast f0
    have g1 : m1N b x y a = m1N b' x' y' a' := by exact_mod_cast f1
    have g2 : m1N x y a b = m1N x' y' a' b' := by exact_mod_cast f2
    have g3 : m1N y a b x = m1N y' a' b' x' := by exact_mod_cast f3
    have p0 : n1N a x = n1N a' x' := by rw [← m2N a b x y, ← m2N a' b' x' y', g0, g1, g2, g3]
    have p1 : n1N b y = n1N b' y' := by rw [← m2N b x y a, ← m2N b' x' y' a', g0, g1, g2, g3]
    have p2 : n1N x a = n1N x' a' := by rw [← m2N x y a b, ← m2N x' y' a' b', g0, g1, g2, g3]
    have p3 : n1N y b = n1N y' b' := by rw [← m2N y a b x, ← m2N y' a' b' x', g0, g1, g2, g3]
    have q0 : a = a' := by rw [← n2N a x, ← n2N a' x', p0, p2]
    have q1 : b = b' := by rw [← n2N b y, ← n2N b' y', p1, p3]
    have q2 : x = x' := by rw [← n2N x a, ← n2N x' a', p0, p2]
    have q3 : y = y' := by rw [← n2N y b, ← n2N y' b', p1, p3]
    intro r hr
    have h4 : r = 0 ∨ r = 1 ∨ r = 2 ∨ r = 3 := by omega
    rcases h4 with rfl | rfl | rfl | rfl
    · rw [ea, ea', q0]
    · rw [eb, eb', q1]
    · rw [ex, ex', q2]
    · rw [ey, ey', q3]
  refine list_ext (by omega) fun i hi => ?_
  have := col (i / 4) (by omega) (i % 4) (by omega)
  rwa [show 4 * (i / 4) + i % 4 = i from by omega] at this
theorem sh_u8 {s : List Int} (h8 : U8s s) : U8s (shS s sboxL 16) := by
  rw [shS_bl]
  refine bl_u8 16 (fun i => ?_) h8
  obtain ⟨n, hn, e⟩ := sboxL_u8.get (s.getD (shJ i) 0).toNat
  rw [e]; unfold U8; omega
theorem mx_u8 {s : List Int} (hs : s.length = 16) (h8 : U8s s) : U8s (mxS s 4) := by
  rw [mxS_bl s hs 4 (by omega)]
  exact bl_u8 _ (fun i => bits_u8 _ _ _ (.inr (.inr rfl))) h8
theorem encR_inj {K s s' : List Int} (hK : U8s K) (k : Nat) (hs : s.length = 16) (hs' : s'.length = 16) (h8 : U8s s) (h8' : U8s s') (h : encR sboxL K s k = encR sboxL K s' k) : s = s' := by
  have hd : U8s (K.drop (16 * k)) := fun x hx => hK x (List.mem_of_mem_drop hx)
  unfold encR at h
  by_cases hk : k < 10
  · rw [if_pos hk, if_pos hk] at h
    have h1 := ad_inj (by rw [mxS_len, shS_len, hs]) (by rw [mxS_len, shS_len, hs']) (mx_u8 (by rw [shS_len, hs]) (sh_u8 h8)) (mx_u8 (by rw [shS_len, hs']) (sh_u8 h8')) hd h
    have h2 := mx_inj (by rw [shS_len, hs]) (by rw [shS_len, hs']) (sh_u8 h8) (sh_u8 h8') h1
    exact sh_inj hs hs' h8 h8' h2
  · rw [if_neg hk, if_neg hk] at h
    have h1 := ad_inj (by rw [shS_len, hs]) (by rw [shS_len, hs']) (sh_u8 h8) (sh_u8 h8') hd h
    exact sh_inj hs hs' h8 h8' h1
theorem encS_inj {K s s' : List Int} (hK : U8s K) (hs : s.length = 16) (hs' : s'.length = 16) (h8 : U8s s) (h8' : U8s s') : ∀ k, encS sboxL K s k = encS sboxL K s' k → s = s'
  | 0, h => ad_inj hs hs' h8 h8' hK h
  | k + 1, h => encS_inj hK hs hs' h8 h8' k (encR_inj hK (k + 1) (by rw [encS_len, hs]) (by rw [encS_len, hs']) (encS_u8 _ K s h8 hs sboxL_u8 k) (encS_u8 _ K s' h8' hs' sboxL_u8 k) h)
theorem str_inj8 {l m : List Int} (hl : U8s l) (hm : U8s m) (hlm : l.length = m.length) (h : strOfNums l = strOfNums m) : l = m := by
  refine list_ext hlm fun i hi => ?_
  rw [← strN_at l hl i hi, ← strN_at m hm i (by omega), h]
theorem bytesOf_inj {a b : ByteArray} (h : bytesOf a = bytesOf b) : a = b := by
  apply ByteArray.ext
  apply Array.ext
  · have := congrArg List.length h
    rwa [bytesOf_length, bytesOf_length] at this
  · intro i h1 h2
    have e : (bytesOf a).getD i 0 = (bytesOf b).getD i 0 := by rw [h]
    have h1' : i < a.data.toList.length := by simpa using h1
    have h2' : i < b.data.toList.length := by simpa using h2
    simp only [bytesOf, List.getD_eq_getElem?_getD, List.getElem?_map, List.getElem?_eq_getElem h1', List.getElem?_eq_getElem h2', Option.map_some, Option.getD_some] at e
    have e2 : (a.data[i]).toNat = (b.data[i]).toNat := by exact_mod_cast e
    exact UInt8.toNat_inj.1 e2
theorem encB_inj {key a b : ByteArray} (hk : key.size = 16) (ha : a.size = 16) (hb : b.size = 16) (h : encB key a = encB key b) : a = b := by
  unfold encB at h
  rw [swaps_box] at h
  have hK : U8s (expandL sboxL key) := exS_u8 sboxL _ (headB_u8 key 176) 40
  have la : (bytesOf a).length = 16 := by rw [bytesOf_length, ha]
  have lb : (bytesOf b).length = 16 := by rw [bytesOf_length, hb]
  have e := str_inj8 (encS_u8 _ _ _ (bytesOf_u8 a) la sboxL_u8 10) (encS_u8 _ _ _ (bytesOf_u8 b) lb sboxL_u8 10) (by rw [encS_len, encS_len, la, lb]) h
  exact bytesOf_inj (encS_inj hK la lb (bytesOf_u8 a) (bytesOf_u8 b) 10 e)
theorem encB_size {key a : ByteArray} (ha : a.size = 16) : (encB key a).size = 16 := by
  unfold encB
  rw [strN_size, encS_len, bytesOf_length, ha]
theorem no_list : (⟨#[]⟩ : ByteArray).toList = ([] : List UInt8) := by rw [ByteArray.toList_eq]
theorem toList_same (a b : ByteArray) : (a.toList == b.toList) = decide (a = b) := by
  by_cases h : a = b
  · subst h; simp
  · have : a.toList ≠ b.toList := fun e => h (by
      rw [ByteArray.toList_eq, ByteArray.toList_eq] at e
      exact ByteArray.ext (Array.toList_inj.1 e))
    simp [h, this]
theorem unlike_k (key a b : ByteArray) (k : Nat) (hk : 2000 ≤ k) : legatelaw04_AesUnlike.f k key a b = some true := by
  unfold legatelaw04_AesUnlike.f
  rw [works04 k (by omega), Option.bind_some, if_pos rfl]
  unfold aes_Encrypt.f
  by_cases h1 : key.size = 16
  · by_cases h2 : a.size = 16
    · rw [if_pos ⟨h1, h2⟩, Option.bind_some]
      have hs := encB_size (key := key) h2
      by_cases h3 : b.size = 16
      · rw [if_pos ⟨h1, h3⟩, Option.bind_some, if_pos (by omega), if_pos (by omega), if_pos (by omega), if_pos (by omega), toList_same, toList_same]
        have e : decide (encB key a = encB key b) = decide (a = b) := decide_eq_decide.2 ⟨encB_inj h1 h2 h3, fun h => by rw [h]⟩
        rw [e]
        simp
      · rw [if_neg (fun h => h3 h.2), Option.bind_some, if_pos (by omega), if_pos (by omega), if_neg (by omega)]
        have hn : ¬ (encB key a).toList = ([] : List UInt8) := fun e => by
          rw [ByteArray.toList_eq] at e
          have := congrArg List.length e
          simp at this
          have h0 : (encB key a).size = 0 := by simp [ByteArray.size, this]
          omega
        rw [if_neg hn]
        have : ((a.size : Int) == 16) = true := by rw [beq_iff_eq]; omega
        rw [this]
    · rw [if_neg (fun h => h2 h.2), Option.bind_some]
      have bnd : ∃ y, (if key.size = 16 ∧ b.size = 16 then some (encB key b) else some ⟨#[]⟩) = some y := by
        split
        · exact ⟨_, rfl⟩
        · exact ⟨_, rfl⟩
      obtain ⟨y, hy⟩ := bnd
      rw [hy, Option.bind_some, if_pos (by omega), if_neg (by omega), if_pos no_list]
  · rw [if_neg (fun h => h1 h.1), Option.bind_some, if_neg (fun h => h1 h.1), Option.bind_some, if_neg (by omega), if_pos no_list]
theorem AesUnlike : legatelaw04_AesUnlike.Pure := by
  intro key a b _ _ _
  exact ⟨2000, unlike_k key a b 2000 (by omega)⟩

end Go.Proofs.Ytkgijkfcmbpgpaa.Pure
