/- Joined by wip/pack.py out of: PureWireSizes; what nothing here names is left out. -/
import Derived.ArgAppend
import Derived.Below
import Derived.BigQuiet
import Derived.Deep.AppendLies
import Derived.Deep.CutBlock
import Derived.Deep.DeepCutAuto
import Derived.Deep.Draws
import Derived.Deep.LoopGhost
import Derived.Deep.OwnRows
import Derived.Deep.QuietTactic
import Derived.Deep.RegionHeld3
import Derived.KernelRfl
import Derived.Laws.BitsLemmas
import Derived.Laws.BytesArg
import Derived.Laws.IdiomCopy
import Derived.Laws.MakeOwn
import Derived.Laws.OwnMore
import Derived.Laws.Rows
import Derived.Laws.Slices
import Derived.Laws.StructEq
import Derived.Lib.AppendStr
import Derived.Lib.ConvBytes
import Derived.Maps.AppendAt
import Derived.OrdersHeld
import Derived.OwnWalk
import Derived.RowKit
import Derived.RowKit3
import Derived.Shelf.Strings.Builder1
import Derived.Shelf.Strings.BuilderF
import Derived.Shelf.Strings.BuilderK
import Derived.Tactics
import Derived.WalkKit
import Derived.WideLaws
import Derived.Test.YtkgijkfcmbpgpaaO3b11
import Derived.Test.YtkgijkfcmbpgpaaO3b13
import Derived.Test.YtkgijkfcmbpgpaaO3b14
import Derived.Test.YtkgijkfcmbpgpaaProg
section
namespace Go.Proofs.Ytkgijkfcmbpgpaa.Pure
open Go.RowKit Go.Proofs.Ytkgijkfcmbpgpaa.PWir Go.Proofs.YtkgijkfcmbpgpaaW.PrintWords Go.Proofs.YtkgijkfcmbpgpaaW.PrintLast
open Go.Proofs.Ytkgijkfcmbpgpaa.Giv
set_option linter.unusedVariables false
set_option linter.unusedSimpArgs false

theorem sizes_loop (x : S44) (a1 : Int) (p q : ByteArray) (N : Nat) (hN : N ≤ 16383) (hL : shpL x.f3 1 = true) (hz : iszL x.f3 ≤ 2000)
    (hend : ∀ k, legatelaw01_WireSizes.l0 (k + 1) a1 true p 0 q 0 (N : Int) (x.f3.length : Int) x.f0 x.f1 x.f2 x.f3 = some true) :
    ∀ (m i k n : Nat), i + m = x.f3.length → m ≤ k → n + (wrL (x.f3.drop i)).length = N → legatelaw01_WireSizes.l0 (k + 1) a1 true p 0 q 0 (n : Int) (i : Int) x.f0 x.f1 x.f2 x.f3 = some true := by
  intro m
  induction m with
  | zero =>
    intro i k n hi hk hn
    have : i = x.f3.length := by omega
    subst this
    rw [List.drop_length] at hn
    simp only [wrL, List.length_nil, Nat.add_zero] at hn
    subst hn
    exact hend k
  | succ m ih =>
    intro i k n hi hk hn
    obtain ⟨k, rfl⟩ : ∃ j, k = j + 1 := ⟨k - 1, by omega⟩
    have hil : i < x.f3.length := by omega
    have hd := drop_rd x.f3 i hil
    have hs := shpL_dropx x.f3 i 1 hL
    have hzz := iszL_drop x.f3 i hil
    have hzt : iszL (x.f3.drop i) ≤ iszL x.f3 := by
      have : ∀ (a b : List S44), iszL (a ++ b) = iszL a + iszL b := by
        intro a b
        induction a with
        | nil => simp [iszL]
        | cons y ys ihh => simp only [List.cons_append, iszL, ihh]; omega
      have e := this (x.f3.take i) (x.f3.drop i)
      rw [List.take_append_drop] at e
      omega
    have hll := iszL_len x.f3
    rw [hd] at hs hn
    rw [shpL, Bool.and_eq_true] at hs
    have hs0 := shp_up _ 0 hs.1
    rw [wrL, List.length_append] at hn
    have hp := put_some (rd_T44 x.f3 (i : Int)) (by omega)
    rw [if_pos hs0] at hp
    have hlen1 : (wr (rd_T44 x.f3 (i : Int))).length ≤ 16383 := by omega
    obtain ⟨r, hr⟩ : ∃ r, r = rd_T44 x.f3 (i : Int) := ⟨_, rfl⟩
    rw [← hr] at hp hn hlen1
    have hi3 : i ≤ 2000 := by omega
    clear hzt hll hzz hs hs0 hd hz
    obtain ⟨L, hLn⟩ : ∃ L, L = (wr r).length := ⟨_, rfl⟩
    rw [← hLn] at hn hlen1
    have W1 := Aside0.mk ((wrapN ((n : Int) + (L : Int)) (by omega) (by omega)).trans (Int.natCast_add n L).symm)
    have W2 := Aside0.mk ((wrapN ((i : Int) + 1) (by omega) (by omega)).trans (Int.natCast_add i 1).symm)
    have i1 : (i : Int) < (x.f3.length : Int) := by omega
    have i2 : (0 : Int) ≤ (i : Int) := by omega
    rw [legatelaw01_WireSizes.l0, if_pos i1, if_pos i2, ← hr, hp, Option.bind_some]
    simp only
    rw [if_pos trivial, baL_size, ← hLn, W1.out, W2.out]
    exact ih (i + 1) k _ (by omega) (by omega) (by omega)
/-- The last looks. -/
theorem sizes_end (x : S44) (a1 : Int) (k : Nat) (body : List UInt8) (hb : body.length ≤ 16383) (hx : 1 ≤ x.f1 ∧ x.f1 ≤ 127) (ha : 1 ≤ a1 ∧ a1 ≤ 127) :
    legatelaw01_WireSizes.l0 (k + 1) a1 true (baL (tagB x.f0 x.f1 :: (lenL body.length ++ body))) 0 (baL (tagB x.f0 a1 :: (lenL body.length ++ body))) 0 (body.length : Int) (x.f3.length : Int) x.f0 x.f1 x.f2 x.f3 = some true := by
  have e1 : ((baL (tagB x.f0 x.f1 :: (lenL body.length ++ body))).extract 1 (baL (tagB x.f0 x.f1 :: (lenL body.length ++ body))).size).toList = lenL body.length ++ body := by
    rw [baL_ext, baL_toList, baL_size, List.take_of_length_le (Nat.le_refl _)]
    rfl
  have e2 : ((baL (tagB x.f0 a1 :: (lenL body.length ++ body))).extract 1 (baL (tagB x.f0 a1 :: (lenL body.length ++ body))).size).toList = lenL body.length ++ body := by
    rw [baL_ext, baL_toList, baL_size, List.take_of_length_le (Nat.le_refl _)]
    rfl
  have t1 : ∀ t : Int, 1 ≤ t ∧ t ≤ 127 → ∀ r : List UInt8, bt (baL (tagB x.f0 t :: r)) 0 = t + if x.f0 = true then 128 else 0 := by
    intro t ht r
    have := bt_baL (tagB x.f0 t :: r) 0
    rw [show ((0 : Nat) : Int) = 0 from rfl] at this
    rw [this]
    show ((tagB x.f0 t).toNat : Int) = _
    unfold tagB
    rw [toNat_of _ (by split <;> omega)]
    split <;> omega
  have z1 : (baL (tagB x.f0 x.f1 :: (lenL body.length ++ body))).size = 1 + (lenL body.length).length + body.length := by rw [baL_size]; simp; omega
  have z2 : (baL (tagB x.f0 a1 :: (lenL body.length ++ body))).size = 1 + (lenL body.length).length + body.length := by rw [baL_size]; simp; omega
  have hd : wrap64 (wrap64 (bt (baL (tagB x.f0 a1 :: (lenL body.length ++ body))) 0) - wrap64 (bt (baL (tagB x.f0 x.f1 :: (lenL body.length ++ body))) 0)) = wrap64 (a1 - x.f1) := by
    rw [t1 a1 ha, t1 x.f1 hx]
    have q1 : wrap64 (a1 + if x.f0 = true then 128 else 0) = a1 + if x.f0 = true then 128 else 0 := by
      unfold wrap64
      split <;> omega
    have q2 : wrap64 (x.f1 + if x.f0 = true then 128 else 0) = x.f1 + if x.f0 = true then 128 else 0 := by
      unfold wrap64
      split <;> omega
    rw [q1, q2]
    congr 1
    split <;> omega
  generalize hP : baL (tagB x.f0 x.f1 :: (lenL body.length ++ body)) = P at *
  generalize hQ : baL (tagB x.f0 a1 :: (lenL body.length ++ body)) = Q at *
  rw [legatelaw01_WireSizes.l0, if_neg (by omega)]
  have HD := Aside0.mk hd
  clear hd t1
  by_cases h1 : (body.length : Int) > 127
  · have hl : (lenL body.length).length = 2 := by unfold lenL; rw [if_neg (by omega)]; rfl
    have w1 : wrap64 (1 + 2 + (body.length : Int)) = ((1 + 2 + body.length : Nat) : Int) := by unfold wrap64; omega
    rw [if_pos h1, if_neg (by omega), if_pos rfl, if_pos rfl, if_pos rfl, w1, if_pos (by omega), if_pos (by omega), if_pos (by omega), if_pos (by omega), e1, e2, if_pos rfl, if_pos (by omega), if_pos (by omega), HD.out]
    simp
  · have hl : (lenL body.length).length = 1 := by unfold lenL; rw [if_pos (by omega)]; rfl
    have w1 : wrap64 (1 + 1 + (body.length : Int)) = ((1 + 1 + body.length : Nat) : Int) := by unfold wrap64; omega
    rw [if_neg h1, if_neg (by omega), if_pos rfl, if_pos rfl, if_pos rfl, w1, if_pos (by omega), if_pos (by omega), if_pos (by omega), if_pos (by omega), e1, e2, if_pos rfl, if_pos (by omega), if_pos (by omega), HD.out]
    simp
theorem sizes_in (k : Nat) (hk : 40000 ≤ k) (x : S44) (a1 : Int) (hx : isz x ≤ 2000) (hs : shp x 0 = true) (ha : 1 ≤ a1 ∧ a1 ≤ 127) : legatelaw01_WireSizes.j0 (k + 1 + 1) a1 true false x.f0 x.f1 x.f2 x.f3 = some true := by
  have hw := wr_len x
  have ht := shp_tag x 0 hs
  have hs2 := hs
  rw [shp_eq] at hs2
  simp only [Bool.and_eq_true, decide_eq_true_eq] at hs2
  have hsy : shp ⟨x.f0, a1, x.f2, x.f3⟩ 0 = true := by
    rw [shp_eq]
    simp only [Bool.and_eq_true, decide_eq_true_eq]
    exact ⟨⟨⟨⟨by omega, ha.1⟩, ha.2⟩, hs2.1.2⟩, hs2.2⟩
  have hzy : isz ⟨x.f0, a1, x.f2, x.f3⟩ = isz x := by cases x; rfl
  have hzx : isz x = 1 + x.f2.size + iszL x.f3 := by cases x; rfl
  have hp := put_some x (by omega)
  have hpy : wire_Put.f x.f0 a1 x.f2 x.f3 = some (if shp ⟨x.f0, a1, x.f2, x.f3⟩ 0 = true then (baL (wr ⟨x.f0, a1, x.f2, x.f3⟩), 0) else (⟨#[]⟩, 1)) := put_some ⟨x.f0, a1, x.f2, x.f3⟩ (by omega)
  rw [if_pos hs] at hp
  rw [if_pos hsy] at hpy
  rw [legatelaw01_WireSizes.j0, if_neg (by simp), hp, Option.bind_some, hpy, Option.bind_some]
  obtain ⟨body, hb⟩ : ∃ body, body = if x.f0 then wrL x.f3 else x.f2.data.toList := ⟨_, rfl⟩
  have e0 : wr x = tagB x.f0 x.f1 :: (lenL body.length ++ body) := by rw [wr_eq, hb]; split <;> rfl
  have e1 : wr ⟨x.f0, a1, x.f2, x.f3⟩ = tagB x.f0 a1 :: (lenL body.length ++ body) := by rw [wr_eq, hb]; simp only; split <;> rfl
  have hbl : body.length = x.f2.size + (wrL x.f3).length := by
    have hq := hs2.1.2
    rw [hb]
    cases hn : x.f0 with
    | true =>
      rw [hn] at hq
      simp only [if_true, decide_eq_true_eq] at hq
      simp [hq]
    | false =>
      rw [hn] at hq
      simp only [Bool.false_eq_true, if_false, List.isEmpty_iff] at hq
      simp [hq, wrL]
  have hbn : body.length ≤ 16383 := by
    have : (wr x).length = 1 + (lenL body.length).length + body.length := by rw [e0]; simp; omega
    omega
  have hlen := iszL_len x.f3
  rw [e0, e1]
  simp only
  exact sizes_loop x a1 _ _ body.length hbn hs2.2 (by omega) (fun k => sizes_end x a1 k body hbn ⟨hs2.1.1.1.2, hs2.1.1.2⟩ ha) x.f3.length 0 k x.f2.size (by omega) (by omega) (by rw [List.drop_zero]; omega)
theorem sizes_out (k : Nat) (x : S44) (a1 : Int) : legatelaw01_WireSizes.j0 (k + 1) a1 true true x.f0 x.f1 x.f2 x.f3 = some true := by
  rw [legatelaw01_WireSizes.j0, if_pos rfl]
theorem WireSizes (x : S44) (a1 : Int) (hx : isz x ≤ 4000000) : ∃ k, legatelaw01_WireSizes.f k x.f0 x.f1 x.f2 x.f3 a1 = some true := by
  refine ⟨9000000 + 1 + 1, ?_⟩
  generalize hk : 9000000 = k
  unfold legatelaw01_WireSizes.f
  rw [works01 _ (by omega), Option.bind_some, if_pos rfl, large_some x (by omega) _ (by omega), Option.bind_some]
  by_cases h1 : 2000 < isz x
  · rw [decide_eq_true h1, if_pos rfl]; exact sizes_out (k + 1) x a1
  · rw [decide_eq_false h1, if_neg (by simp), valid_some x (by omega) _ (by omega), Option.bind_some]
    by_cases h2 : shp x 0 = true
    · rw [if_pos h2]
      by_cases h3 : a1 < 1
      · rw [if_pos h3]; exact sizes_out (k + 1) x a1
      · rw [if_neg h3]
        by_cases h4 : a1 > 127
        · rw [decide_eq_true h4]; exact sizes_out (k + 1) x a1
        · rw [decide_eq_false h4]; exact sizes_in k (by omega) x a1 (by omega) h2 ⟨by omega, by omega⟩
    · rw [if_neg h2]; exact sizes_out (k + 1) x a1
end Go.Proofs.Ytkgijkfcmbpgpaa.Pure
end
