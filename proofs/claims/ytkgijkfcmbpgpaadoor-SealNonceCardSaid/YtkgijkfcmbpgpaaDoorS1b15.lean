/- Joined by wip/pack.py out of: PureSealEnds, PureSealNonce; what nothing here names is left out. -/
import Derived.ArgAppend
import Derived.Below
import Derived.BigQuiet
import Derived.Deep.AppendLies
import Derived.Deep.CutBlock
import Derived.Deep.DeepCutAuto
import Derived.Deep.Draws
import Derived.Deep.LoopGhost
import Derived.Deep.MidRow
import Derived.Deep.OwnRows
import Derived.Deep.QuietTactic
import Derived.Deep.RegionHeld3
import Derived.KernelRfl
import Derived.Laws.BitsAllLaws
import Derived.Laws.BitsLemmas
import Derived.Laws.BytesArg
import Derived.Laws.CopyOwn
import Derived.Laws.Cover3
import Derived.Laws.IdiomCopy
import Derived.Laws.MakeOwn
import Derived.Laws.OwnMore
import Derived.Laws.Rows
import Derived.Laws.Slices
import Derived.Laws.StructEq
import Derived.Laws.Tables
import Derived.Lib.AppendStr
import Derived.Lib.BufferWrite
import Derived.Lib.ConvBytes
import Derived.Lib.LazyBuf
import Derived.LoopIn
import Derived.LoopNIn
import Derived.Maps.AppendAt
import Derived.OrdersHeld
import Derived.Outline
import Derived.OwnWalk
import Derived.OwnWalkIn
import Derived.RangeFuncBound
import Derived.RangeFuncCalls
import Derived.RangeFuncLeaves
import Derived.RangeFuncNested
import Derived.RangeFuncOwn
import Derived.RowKit
import Derived.RowKit3
import Derived.ScopeJumps
import Derived.Shelf.Abstract
import Derived.Shelf.RegionOpen
import Derived.Shelf.Strings.Builder1
import Derived.Shelf.Strings.BuilderF
import Derived.Shelf.Strings.BuilderK
import Derived.StillTailTactics
import Derived.Tactics
import Derived.TacticsInMore
import Derived.WalkKit
import Derived.WalkMore
import Derived.WideLaws
import Derived.Test.YtkgijkfcmbpgpaaDoorProg
import Derived.Test.YtkgijkfcmbpgpaaDoorS1b12
import Derived.Test.YtkgijkfcmbpgpaaDoorS1b13
import Derived.Test.YtkgijkfcmbpgpaaDoorS1b14
section
namespace Go.Proofs.YtkgijkfcmbpgpaaDoor.Pure
open Go.RowKit Go.Proofs.YtkgijkfcmbpgpaaDoor.PAll Go.Proofs.YtkgijkfcmbpgpaaDoorW.PrintWords Go.Proofs.YtkgijkfcmbpgpaaDoorW.PrintLast
open Go.Proofs.YtkgijkfcmbpgpaaDoor.Giv
set_option linter.unusedVariables false
set_option linter.unusedSimpArgs false

theorem ends_out (k : Nat) (a : ByteArray) (n : Int) (c s e : ByteArray) : legatelaw07_SealEnds.j0 (k + 1) a n c s e true true = some true := by
  rw [legatelaw07_SealEnds.j0, if_pos rfl]
theorem ends_in (k : Nat) (hk : 65600 < k) (a : ByteArray) (n : Int) (c s e : ByteArray) (ha : a.size ≤ 1000) (hs : s.size ≤ 2000) (he : e.size = 32) (hc : c.size = 12) : legatelaw07_SealEnds.j0 (k + 1 + 1) a n c s e true false = some true := by
  classical
  have z := sealB_size a n c s hc (by omega)
  have hf := frontB_size a n c s
  have w : wrap64 (((sealB a n c s).size : Int) - 32) = (((sealB a n c s).size - 32 : Nat) : Int) := by unfold wrap64; omega
  have e1 := seal_front a n c s hc (by omega)
  have e2 := seal_end a n c s hc (by omega)
  rw [legatelaw07_SealEnds.j0, if_neg (by simp), seal_some a n c s (by omega) hc (by omega) (k + 1) (by omega), Option.bind_some, if_pos rfl, decide_eq_false (by show ¬ ((sealB a n c s).size : Int) < 44; omega), legatelaw07_SealEnds.j1, if_neg (by simp), dsum_some a n (by omega), Option.bind_some]
  dsimp only
  rw [w, if_pos (by omega), if_pos (by omega), Int.toNat_natCast, e1, e2, smac_some a n _ (by omega), Option.bind_some, if_pos (by omega), open_front a n c s e (by omega) hc (by omega) he k hk, toList_beq, toList_beq]
  by_cases h : smacB a n (frontB a n c s) = e
  · rw [if_pos h, Option.bind_some, if_pos (by rw [h]), if_pos rfl, if_pos rfl, if_pos rfl, decide_eq_true h]
  · rw [if_neg h, Option.bind_some, if_neg (fun q => h (toList_inj q).symm), if_pos rfl, if_pos rfl]
    show (if (⟨#[]⟩ : ByteArray).toList = [] then some (decide (smacB a n (frontB a n c s) = smacB a n (frontB a n c s))) else some false) = some true
    rw [if_pos nil_list]
    simp
theorem SealEnds : legatelaw07_SealEnds.Pure := by
  intro a n c s e _ _ _ _ _
  refine ⟨69998 + 1 + 1, ?_⟩
  generalize hk : 69998 = k
  unfold legatelaw07_SealEnds.f
  rw [works07 _ (by omega), Option.bind_some, if_pos rfl]
  by_cases h1 : (a.size : Int) > 1000
  · rw [if_pos h1]; exact ends_out (k + 1) a n c s e
  rw [if_neg h1]
  by_cases h2 : (s.size : Int) > 2000
  · rw [if_pos h2]; exact ends_out (k + 1) a n c s e
  rw [if_neg h2]
  by_cases h3 : (e.size : Int) = 32
  · rw [if_pos h3]
    by_cases h4 : (c.size : Int) = 12
    · have q : ((c.size : Int) != 12) = false := by simpa using h4
      rw [q]
      exact ends_in k (by omega) a n c s e (by omega) (by omega) (by omega) (by omega)
    · have q : ((c.size : Int) != 12) = true := by simpa using h4
      rw [q]; exact ends_out (k + 1) a n c s e
  · rw [if_neg h3]; exact ends_out (k + 1) a n c s e

end Go.Proofs.YtkgijkfcmbpgpaaDoor.Pure
end

section
namespace Go.Proofs.YtkgijkfcmbpgpaaDoor.Pure
open Go.RowKit Go.Proofs.YtkgijkfcmbpgpaaDoor.PAll Go.Proofs.YtkgijkfcmbpgpaaDoorW.PrintWords Go.Proofs.YtkgijkfcmbpgpaaDoorW.PrintLast
open Go.Proofs.YtkgijkfcmbpgpaaDoor.Giv
set_option linter.unusedVariables false
set_option linter.unusedSimpArgs false

theorem stream_at (key nonce : ByteArray) (hn : nonce.size = 12) (m i : Nat) (hi : i < m) : bt (streamB key nonce m) (i : Int) = bt (streamB key nonce (i + 1)) (i : Int) := by
  rw [stream_begins key nonce hn (i + 1) m (by omega), bt_ext0 _ (i + 1) i (by rw [streamB_size key nonce hn]; omega) (by omega)]
theorem xor_cancel {p q r : Int} (hp : U8 p) (hq : U8 q) (hr : U8 r) : (Go.bits .xor .u8 p r = Go.bits .xor .u8 q r) ↔ p = q := by
  obtain ⟨a, ha, rfl⟩ := nat_of_u8 hp
  obtain ⟨b, hb, rfl⟩ := nat_of_u8 hq
  obtain ⟨c, hc, rfl⟩ := nat_of_u8 hr
  rw [u8_xor_nat a c ha hc, u8_xor_nat b c hb hc]
  constructor
  · intro h
    have h1 : a ^^^ c = b ^^^ c := by exact_mod_cast h
    have h2 : (a ^^^ c) ^^^ c = (b ^^^ c) ^^^ c := by rw [h1]
    rw [Nat.xor_assoc, Nat.xor_assoc, Nat.xor_self, Nat.xor_zero, Nat.xor_zero] at h2
    rw [h2]
  · intro h
    have h1 : a = b := by exact_mod_cast h
    rw [h1]
theorem seal_at (a : ByteArray) (n : Int) (c s : ByteArray) (hc : c.size = 12) (i : Nat) (hi : i < s.size) : bt (sealB a n c s) ((12 + i : Nat) : Int) = Go.bits .xor .u8 (bt s (i : Int)) (bt (streamB (ckB a n) c (i + 1)) (i : Int)) := by
  have hz := cipB_size (ckB a n) c s
  unfold sealB
  rw [bt_app_l _ _ _ (by rw [frontB_size]; omega)]
  unfold frontB
  rw [bt_app_r _ _ _ (by omega), show 12 + i - c.size = i from by omega, cip_at _ _ _ i hi, stream_at _ _ hc s.size i hi]
theorem nonce_l0 (a : ByteArray) (n : Int) (c x y : ByteArray) (hc : c.size = 12) (hx : x.size ≤ 500) (hy : y.size ≤ 500) : ∀ (d i k : Nat), i + d = 501 → 2 * d < k → 
    legatelaw07_SealNonce.l0 (k + 1) x y true (sealB a n c x) (sealB a n c y) (i : Int) = some true := by
  intro d
  have zx := sealB_size a n c x hc (by omega)
  have zy := sealB_size a n c y hc (by omega)
  induction d with
  | zero =>
    intro i k hi hk
    obtain ⟨k, rfl⟩ : ∃ j, k = j + 1 := ⟨k - 1, by omega⟩
    rw [legatelaw07_SealNonce.l0, if_neg (by omega), legatelaw07_SealNonce.j3, if_neg (by simp)]
  | succ d ih =>
    intro i k hi hk
    obtain ⟨k, rfl⟩ : ∃ j, k = j + 1 + 1 := ⟨k - 2, by omega⟩
    rw [legatelaw07_SealNonce.l0]
    by_cases h1 : i < x.size
    · rw [if_pos (by omega)]
      by_cases h2 : i < y.size
      · have w1 : wrap64 (12 + (i : Int)) = ((12 + i : Nat) : Int) := by unfold wrap64; omega
        have w2 : wrap64 ((i : Int) + 1) = ((i + 1 : Nat) : Int) := by unfold wrap64; omega
        have hu := bt_u8' (streamB (ckB a n) c (i + 1)) (i : Int)
        have e := xor_cancel (bt_u8' x (i : Int)) (bt_u8' y (i : Int)) hu
        rw [decide_eq_true (by omega), legatelaw07_SealNonce.j3, if_pos rfl, w1, w2, if_pos (by omega), if_pos (by omega), if_pos (by omega), if_pos (by omega), if_pos (by omega), if_pos (by omega), seal_at a n c x hc i h1, seal_at a n c y hc i h2]
        have q : ((bt x (i : Int) == bt y (i : Int)) != (Go.bits .xor .u8 (bt x (i : Int)) (bt (streamB (ckB a n) c (i + 1)) (i : Int)) == Go.bits .xor .u8 (bt y (i : Int)) (bt (streamB (ckB a n) c (i + 1)) (i : Int)))) = false := by
          by_cases h : bt x (i : Int) = bt y (i : Int)
          · rw [h]; simp
          · have h' := fun hh => h (e.1 hh)
            rw [beq_eq_false_iff_ne.2 h, beq_eq_false_iff_ne.2 h']
            rfl
        rw [q, if_neg (by simp)]
        exact ih (i + 1) k (by omega) (by omega)
      · rw [decide_eq_false (by omega), legatelaw07_SealNonce.j3, if_neg (by simp)]
    · rw [if_neg (by omega), legatelaw07_SealNonce.j3, if_neg (by simp)]
theorem nonce_out (k : Nat) (a : ByteArray) (n : Int) (c d x y : ByteArray) : legatelaw07_SealNonce.j0 (k + 1) a n c d x y true true = some true := by
  rw [legatelaw07_SealNonce.j0, if_pos rfl]
theorem nonce_in (k : Nat) (hk : 65600 < k) (a : ByteArray) (n : Int) (c d x y : ByteArray) (ha : a.size ≤ 500) (hx : x.size ≤ 500) (hy : y.size ≤ 500) (hc : c.size = 12) (hd : d.size = 12) : legatelaw07_SealNonce.j0 (k + 1 + 1 + 1) a n c d x y true false = some true := by
  have q : ((c.toList == d.toList) != ((sealB a n c x).toList == (sealB a n d x).toList)) = false := by
    rw [toList_beq, toList_beq]
    by_cases h : c = d
    · rw [h]; simp
    · have h2 : ¬ sealB a n c x = sealB a n d x := fun e => h (by
        have e1 : (sealB a n c x).extract 0 12 = c := front_nonce a n c x _ hc
        have e2 : (sealB a n d x).extract 0 12 = d := front_nonce a n d x _ hd
        rw [← e1, ← e2, e])
      rw [decide_eq_false h, decide_eq_false h2]
      rfl
  rw [legatelaw07_SealNonce.j0, if_neg (by simp), seal_some a n c x (by omega) hc (by omega) _ (by omega), Option.bind_some, seal_some a n c y (by omega) hc (by omega) _ (by omega), Option.bind_some, seal_some a n d x (by omega) hd (by omega) _ (by omega), Option.bind_some, if_pos rfl, if_pos rfl, if_pos rfl, q, legatelaw07_SealNonce.j1, if_neg (by simp)]
  exact nonce_l0 a n c x y hc hx hy 501 0 k (by omega) (by omega)
theorem SealNonce : legatelaw07_SealNonce.Pure := by
  intro a n c d x y _ _ _ _ _ _
  refine ⟨69997 + 1 + 1 + 1, ?_⟩
  generalize hk : 69997 = k
  unfold legatelaw07_SealNonce.f
  rw [works07 _ (by omega), Option.bind_some, if_pos rfl]
  by_cases h1 : (a.size : Int) > 500
  · rw [if_pos h1]; exact nonce_out (k + 1 + 1) a n c d x y
  rw [if_neg h1]
  by_cases h2 : (c.size : Int) = 12
  · rw [if_pos h2]
    by_cases h3 : (d.size : Int) = 12
    · rw [if_pos h3]
      by_cases h4 : (x.size : Int) > 500
      · rw [if_pos h4]; exact nonce_out (k + 1 + 1) a n c d x y
      rw [if_neg h4]
      by_cases h5 : (y.size : Int) > 500
      · rw [decide_eq_true h5]; exact nonce_out (k + 1 + 1) a n c d x y
      · rw [decide_eq_false h5]; exact nonce_in k (by omega) a n c d x y (by omega) (by omega) (by omega) (by omega) (by omega)
    · rw [if_neg h3]; exact nonce_out (k + 1 + 1) a n c d x y
  · rw [if_neg h2]; exact nonce_out (k + 1 + 1) a n c d x y

end Go.Proofs.YtkgijkfcmbpgpaaDoor.Pure
end
