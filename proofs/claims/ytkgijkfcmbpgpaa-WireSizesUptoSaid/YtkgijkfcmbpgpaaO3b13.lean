/- Joined by wip/pack.py out of: MWireR, PureWireRow, MOpenR; what nothing here names is left out. -/
import Derived.ArgAppend
import Derived.Below
import Derived.BigQuiet
import Derived.DataElems
import Derived.Deep.AppendLies
import Derived.Deep.CutBlock
import Derived.Deep.DeepCutAuto
import Derived.Deep.Draws
import Derived.Deep.LoopGhost
import Derived.Deep.OwnRows
import Derived.Deep.QuietTactic
import Derived.Deep.RegionHeld3
import Derived.KernelRfl
import Derived.Laws.BitsLemmas
import Derived.Laws.BytesArg
import Derived.Laws.IdiomCopy
import Derived.Laws.MakeOwn
import Derived.Laws.OwnMore
import Derived.Laws.Rows
import Derived.Laws.Slices
import Derived.Laws.StructEq
import Derived.Lib.AppendStr
import Derived.Lib.ConvBytes
import Derived.MapPlaces
import Derived.Maps.AppendAt
import Derived.OrdersHeld
import Derived.OwnWalk
import Derived.RowKit
import Derived.RowKit3
import Derived.Shelf.Strings.Builder1
import Derived.Shelf.Strings.BuilderF
import Derived.Shelf.Strings.BuilderK
import Derived.Tactics
import Derived.WalkKit
import Derived.WideLaws
import Derived.Test.YtkgijkfcmbpgpaaO3b11
import Derived.Test.YtkgijkfcmbpgpaaO3b12
import Derived.Test.YtkgijkfcmbpgpaaProg
import Derived.Test.YtkgijkfcmbpgpaaRows
section
namespace Go.Proofs.Ytkgijkfcmbpgpaa.Giv
open Go.RowKit Go.Proofs.Ytkgijkfcmbpgpaa.PWir Go.Proofs.YtkgijkfcmbpgpaaW.PrintWords Go.Proofs.YtkgijkfcmbpgpaaW.PrintLast
set_option linter.unusedVariables false
set_option linter.unusedSimpArgs false
mutual
theorem shp_up : ∀ (x : S44) (d : Nat), shp x (d + 1) = true → shp x d = true
  | ⟨n, t, s, l⟩, d, h => by
    rw [shp] at h ⊢
    simp only [Bool.and_eq_true, decide_eq_true_eq] at h ⊢
    exact ⟨⟨⟨⟨by omega, h.1.1.1.2⟩, h.1.1.2⟩, h.1.2⟩, shpL_up l (d + 1) h.2⟩
theorem shpL_up : ∀ (l : List S44) (d : Nat), shpL l (d + 1) = true → shpL l d = true
  | [], _, _ => by rw [shpL]
  | x :: r, d, h => by
    rw [shpL] at h ⊢
    simp only [Bool.and_eq_true] at h ⊢
    exact ⟨shp_up x d h.1, shpL_up r d h.2⟩
end
theorem shpL_dropx (l : List S44) (i d : Nat) (h : shpL l d = true) : shpL (l.drop i) d = true := by
  rw [← List.take_append_drop i l, shpL_app, Bool.and_eq_true] at h
  exact h.2
theorem wrapN (a : Int) (h0 : 0 ≤ a) (h : a ≤ 1000000) : wrap64 a = a := by unfold wrap64; omega
theorem iszL_dropLe (l : List S44) (i : Nat) : iszL (l.drop i) ≤ iszL l := by
  have : ∀ (a b : List S44), iszL (a ++ b) = iszL a + iszL b := by
    intro a b
    induction a with
    | nil => simp [iszL]
    | cons y ys ihh => simp only [List.cons_append, iszL, ihh]; omega
  have e := this (l.take i) (l.drop i)
  rw [List.take_append_drop] at e
  omega
theorem rd_fine (l : List S44) (i : Nat) (hL : shpL l 1 = true) (hz : iszL l ≤ 2000) (h : i < l.length) : shp (rd_T44 l (i : Int)) 0 = true ∧ isz (rd_T44 l (i : Int)) ≤ 3000 := by
  have hs := shpL_dropx l i 1 hL
  have h1 := iszL_drop l i h
  have h2 := iszL_dropLe l i
  rw [drop_rd l i h, shpL, Bool.and_eq_true] at hs
  exact ⟨shp_up _ 0 hs.1, by omega⟩
end Go.Proofs.Ytkgijkfcmbpgpaa.Giv
end

section
namespace Go.Proofs.Ytkgijkfcmbpgpaa.Pure
open Go.RowKit Go.Proofs.Ytkgijkfcmbpgpaa.PWir Go.Proofs.YtkgijkfcmbpgpaaW.PrintWords Go.Proofs.YtkgijkfcmbpgpaaW.PrintLast
open Go.Proofs.Ytkgijkfcmbpgpaa.Giv
set_option linter.unusedVariables false
set_option linter.unusedSimpArgs false

theorem row_l0 (xs : List S44) (a1 : Int) (hL : shpL xs 1 = true) (hz : iszL xs ≤ 2000) (hend : ∀ k, 30000 ≤ k → legatelaw01_WireRow.l1 k xs true (baL (wrL xs)) (baL (wrL xs)) 0 true a1 ⟨#[]⟩ xs = some true) :
    ∀ (m i k : Nat) (acc : List UInt8), i + m = xs.length → m + 30000 ≤ k → acc ++ wrL (xs.drop i) = wrL xs → legatelaw01_WireRow.l0 (k + 1) xs true (baL acc) (i : Int) true a1 ⟨#[]⟩ xs = some true := by
  have hwl := wrL_len xs
  have hll := iszL_len xs
  intro m
  induction m with
  | zero =>
    intro i k acc hi hk ha
    have : i = xs.length := by omega
    subst this
    rw [List.drop_length, wrL, List.append_nil] at ha
    subst ha
    rw [legatelaw01_WireRow.l0, if_neg (by omega)]
    exact hend k (by omega)
  | succ m ih =>
    intro i k acc hi hk ha
    obtain ⟨k, rfl⟩ : ∃ j, k = j + 1 := ⟨k - 1, by omega⟩
    have hil : i < xs.length := by omega
    obtain ⟨hs0, hr3⟩ := rd_fine xs i hL hz hil
    have hd := drop_rd xs i hil
    have hp := put_some (rd_T44 xs (i : Int)) hr3
    rw [if_pos hs0] at hp
    rw [hd, wrL, ← List.append_assoc] at ha
    have hlen := congrArg List.length ha
    rw [List.length_append, List.length_append] at hlen
    have W2 := Aside0.mk ((wrapN ((i : Int) + 1) (by omega) (by omega)).trans (Int.natCast_add i 1).symm)
    have i1 : (i : Int) < (xs.length : Int) := by omega
    have i2 : (0 : Int) ≤ (i : Int) := by omega
    have i3 : (baL acc).size + (baL (wr (rd_T44 xs (i : Int)))).size ≤ 9223372036854775807 := by rw [baL_size, baL_size]; omega
    rw [legatelaw01_WireRow.l0, if_pos i1, if_pos i2, hp, Option.bind_some]
    simp only
    rw [if_pos trivial, if_pos i3, baL_app, W2.out]
    exact ih (i + 1) k _ (by omega) (by omega) ha
theorem row_end (xs : List S44) (a1 : Int) (hs : shp ⟨true, a1, ⟨#[]⟩, xs⟩ 0 = true) (hz : isz ⟨true, a1, ⟨#[]⟩, xs⟩ ≤ 2000) (k : Nat) : legatelaw01_WireRow.l1 (k + 1) xs true (baL (wrL xs)) (baL []) (xs.length : Int) true a1 ⟨#[]⟩ xs = some true := by
  have hp : wire_Put.f true a1 ⟨#[]⟩ xs = some (if shp ⟨true, a1, ⟨#[]⟩, xs⟩ 0 = true then (baL (wr ⟨true, a1, ⟨#[]⟩, xs⟩), 0) else (⟨#[]⟩, 1)) := put_some ⟨true, a1, ⟨#[]⟩, xs⟩ (by omega)
  rw [if_pos hs] at hp
  have hwl := wr_len ⟨true, a1, ⟨#[]⟩, xs⟩
  have e0 : wr ⟨true, a1, ⟨#[]⟩, xs⟩ = (tagB true a1 :: lenL (wrL xs).length) ++ wrL xs := by rw [wr_eq]; rfl
  have hln := lenL_len (wrL xs).length
  have hsz : (wr ⟨true, a1, ⟨#[]⟩, xs⟩).length = (1 + (lenL (wrL xs).length).length) + (wrL xs).length := by rw [e0]; simp; omega
  have w1 := wrapN (((wrL xs).length : Int) + 2) (by omega) (by omega)
  have w2 : wrap64 (((wr ⟨true, a1, ⟨#[]⟩, xs⟩).length : Int) - ((wrL xs).length : Int)) = ((1 + (lenL (wrL xs).length).length : Nat) : Int) := by
    rw [wrapN _ (by omega) (by omega)]
    omega
  have i1 : ¬ ((xs.length : Int) < (xs.length : Int)) := by omega
  have W1 := Aside0.mk w1
  have W2 := Aside0.mk w2
  clear w1 w2
  have i2 : ((wr ⟨true, a1, ⟨#[]⟩, xs⟩).length : Int) ≥ ((wrL xs).length : Int) + 2 := by omega
  have i3 : (0 : Int) ≤ ((1 + (lenL (wrL xs).length).length : Nat) : Int) := by omega
  have i4 : ((1 + (lenL (wrL xs).length).length : Nat) : Int) ≤ ((wr ⟨true, a1, ⟨#[]⟩, xs⟩).length : Int) := by omega
  rw [legatelaw01_WireRow.l1, if_neg i1, hp, Option.bind_some, if_pos rfl, if_pos (by rw [baL_toList])]
  simp only
  rw [if_pos trivial, baL_size, baL_size, W1.out, W2.out, if_pos i2, if_pos i3, if_pos i4, baL_ext, baL_toList, baL_toList, Int.toNat_natCast, List.take_of_length_le (Nat.le_refl _), e0,
    show 1 + (lenL (wrL xs).length).length = (tagB true a1 :: lenL (wrL xs).length).length by simp; omega, List.drop_left]
  simp
theorem row_l1 (xs : List S44) (a1 : Int) (hs : shp ⟨true, a1, ⟨#[]⟩, xs⟩ 0 = true) (hz : isz ⟨true, a1, ⟨#[]⟩, xs⟩ ≤ 2000) :
    ∀ (m i k : Nat), i + m = xs.length → m + 24001 ≤ k → legatelaw01_WireRow.l1 (k + 1) xs true (baL (wrL xs)) (baL (wrL (xs.drop i))) (i : Int) true a1 ⟨#[]⟩ xs = some true := by
  have hzx : isz ⟨true, a1, ⟨#[]⟩, xs⟩ = 1 + iszL xs := by rw [isz]; exact congrArg (fun n => 1 + n + iszL xs) (show (⟨#[]⟩ : ByteArray).size = 0 from rfl)
  have hL : shpL xs 1 = true := by
    have h := hs
    rw [shp_eq] at h
    simp only [Bool.and_eq_true] at h
    exact h.2
  have hwl := wrL_len xs
  have hll := iszL_len xs
  intro m
  induction m with
  | zero =>
    intro i k hi hk
    have : i = xs.length := by omega
    subst this
    rw [List.drop_length, wrL]
    exact row_end xs a1 hs hz k
  | succ m ih =>
    intro i k hi hk
    obtain ⟨k, rfl⟩ : ∃ j, k = j + 1 := ⟨k - 1, by omega⟩
    have hil : i < xs.length := by omega
    obtain ⟨hs0, hr3⟩ := rd_fine xs i hL (by omega) hil
    have hd := drop_rd xs i hil
    obtain ⟨r, hr⟩ : ∃ r, r = rd_T44 xs (i : Int) := ⟨_, rfl⟩
    rw [← hr] at hs0 hr3 hd
    obtain ⟨t, ht⟩ : ∃ t, t = wrL (xs.drop (i + 1)) := ⟨_, rfl⟩
    have htl : t.length ≤ 8000 := by
      have h1 := wrL_len (xs.drop (i + 1))
      have h2 := iszL_dropLe xs (i + 1)
      rw [ht]
      omega
    have hf := First_some r t hs0 hr3 (by omega) (k + 1) (by omega)
    have hse := same_some r r (by omega)
    rw [sameB_refl] at hse
    have hw2 := wr_two r
    have W2 := Aside0.mk ((wrapN ((i : Int) + 1) (by omega) (by omega)).trans (Int.natCast_add i 1).symm)
    have hsz : (wr r ++ t).length = (wr r).length + t.length := List.length_append
    have i1 : (i : Int) < (xs.length : Int) := by omega
    have i2 : (0 : Int) ≤ (i : Int) := by omega
    have i3 : ¬ (((wr r).length : Int) < 2) := by omega
    have i4 : ¬ (((wr r).length : Int) > ((wr r ++ t).length : Int)) := by rw [hsz]; omega
    have i5 : (0 : Int) ≤ ((wr r).length : Int) := by omega
    have i6 : ((wr r).length : Int) ≤ ((wr r ++ t).length : Int) := by rw [hsz]; omega
    have hnext := ih (i + 1) k (by omega) (by omega)
    rw [← ht] at hnext
    rw [hd, wrL, ← ht, legatelaw01_WireRow.l1, if_pos i1, hf, Option.bind_some]
    simp only
    rw [if_pos trivial, if_neg i3, baL_size, if_neg i4, if_pos i2, ← hr, hse, Option.bind_some, if_pos rfl, if_pos i5, if_pos i6, baL_ext, Int.toNat_natCast, List.take_of_length_le (Nat.le_refl _), List.drop_left, W2.out]
    exact hnext
theorem row_out (k : Nat) (xs : List S44) (a1 : Int) : legatelaw01_WireRow.j0 (k + 1) xs true true true a1 ⟨#[]⟩ xs = some true := by
  rw [legatelaw01_WireRow.j0, if_pos rfl]
theorem row_in (k : Nat) (hk : 40000 ≤ k) (xs : List S44) (a1 : Int) (hs : shp ⟨true, a1, ⟨#[]⟩, xs⟩ 0 = true) (hz : isz ⟨true, a1, ⟨#[]⟩, xs⟩ ≤ 2000) : legatelaw01_WireRow.j0 (k + 1 + 1) xs true false true a1 ⟨#[]⟩ xs = some true := by
  have hzx : isz ⟨true, a1, ⟨#[]⟩, xs⟩ = 1 + iszL xs := by rw [isz]; exact congrArg (fun n => 1 + n + iszL xs) (show (⟨#[]⟩ : ByteArray).size = 0 from rfl)
  have hll := iszL_len xs
  have hL : shpL xs 1 = true := by
    have h := hs
    rw [shp_eq] at h
    simp only [Bool.and_eq_true] at h
    exact h.2
  rw [legatelaw01_WireRow.j0, if_neg (by simp)]
  refine row_l0 xs a1 hL (by omega) (fun k hk => ?_) xs.length 0 k [] (by omega) (by omega) (by rw [List.drop_zero]; rfl)
  obtain ⟨k, rfl⟩ : ∃ j, k = j + 1 := ⟨k - 1, by omega⟩
  have h := row_l1 xs a1 hs hz xs.length 0 k (by omega) (by omega)
  rw [List.drop_zero] at h
  exact h
theorem WireRow (xs : List S44) (a1 : Int) (hx : iszL xs ≤ 4000000) : ∃ k, legatelaw01_WireRow.f k xs a1 = some true := by
  have hzx : isz ⟨true, a1, ⟨#[]⟩, xs⟩ = 1 + iszL xs := by rw [isz]; exact congrArg (fun n => 1 + n + iszL xs) (show (⟨#[]⟩ : ByteArray).size = 0 from rfl)
  refine ⟨9000000 + 1 + 1, ?_⟩
  generalize hk : 9000000 = k
  unfold legatelaw01_WireRow.f
  have hlg : legateref01_Large.f (k + 1 + 1) true a1 ⟨#[]⟩ xs 2000 = some (decide (2000 < isz ⟨true, a1, ⟨#[]⟩, xs⟩)) := large_some ⟨true, a1, ⟨#[]⟩, xs⟩ (by omega) _ (by omega)
  rw [works01 _ (by omega), Option.bind_some, if_pos rfl, hlg, Option.bind_some]
  by_cases h1 : 2000 < isz ⟨true, a1, ⟨#[]⟩, xs⟩
  · rw [decide_eq_true h1, if_pos rfl]; exact row_out (k + 1) xs a1
  · have hv : wire_Valid.f (k + 1 + 1) true a1 ⟨#[]⟩ xs = some (shp ⟨true, a1, ⟨#[]⟩, xs⟩ 0) := valid_some ⟨true, a1, ⟨#[]⟩, xs⟩ (by omega) _ (by omega)
    rw [decide_eq_false h1, if_neg (by simp), hv, Option.bind_some]
    by_cases h2 : shp ⟨true, a1, ⟨#[]⟩, xs⟩ 0 = true
    · rw [h2]; exact row_in k (by omega) xs a1 h2 (by omega)
    · rw [show shp ⟨true, a1, ⟨#[]⟩, xs⟩ 0 = false by simpa using h2]; exact row_out (k + 1) xs a1
end Go.Proofs.Ytkgijkfcmbpgpaa.Pure
end

section
namespace Go.Proofs.Ytkgijkfcmbpgpaa.Giv
open Go.RowKit Go.Proofs.YtkgijkfcmbpgpaaW.PrintWords Go.Proofs.Ytkgijkfcmbpgpaa.PWir
set_option linter.unusedVariables false
set_option linter.unusedSimpArgs false
variable {H : Type} {enc : TypeId × Value → H} {w : World}
/-- A row of items as_ an argument. -/
theorem row42 {base : Nat} {r : Reach} {v : Value} {d : DataW H} {ps : List MemPlace} (hv : Value.okWide Try.prog w r base 42 v) (h : DataW.Trod enc Try.prog w 0 (fun _ => true) true 42 v d ps) :
    ∃ (xs : List S44) (A : Option Addr) (c : Nat), v = .slice A xs.length c ∧ xs.length ≤ c ∧ k44.C w A xs.length xs ∧ iszL xs ≤ Rows.uptoBulk d := by
  obtain ⟨fuel, h⟩ := h
  have hna : v.cells.toList = [v] := by
    unfold Value.okWide Cell.okWide at hv
    simp only [Try.underlying42] at hv
    cases v with
    | agg cs => simp [Cell.ok, Try.underlying42] at hv
    | _ => rfl
  rw [hna] at h
  cases fuel with
  | zero => simp [DataW.trod] at h
  | succ m =>
    unfold DataW.trod at h
    simp only [Try.underlying42] at h
    split at h
    all_goals first | (exfalso; simp_all; done) | skip
    case h_7 =>
      rename_i hv
      injection hv with hv
      subst hv
      exact ⟨[], none, 0, rfl, Nat.le_refl _, ⟨rfl, by simp, fun hp => absurd hp (by simp)⟩, Nat.zero_le _⟩
    case h_8 =>
      rename_i e a len cap ht hv
      injection hv with hv
      subst hv
      injection ht with ht
      injection ht with ht
      subst ht
      simp only [cellsOf44, if_true] at h
      split at h
      case isFalse => cases h
      case isTrue hb =>
      simp only [Option.map_eq_some_iff, Option.bind_eq_some_iff] at h
      obtain ⟨elems, he, rest, hr, h3⟩ := h
      cases h3
      obtain ⟨xs, hx1, hx2, hx3⟩ := rows_of (ad := a) _ (fun i d ps hg => by
        obtain ⟨cs, hc, ht⟩ := Option.bind_eq_some_iff.1 hg
        obtain ⟨x, A, c, rfl, hle, hC, hz⟩ := open44 m cs d ps ht
        obtain ⟨_, hcell⟩ := cells_of hc
        exact ⟨x, _, rfl, k44_mk w x hle hC, hz, fun j u hj => by rw [← Addr.add_add]; exact hcell j u hj⟩) len elems he
      have hl : elems.length = len := by simpa using (mapM_getElem _ _ he).1
      have hlx : xs.length = len := by rw [hx1, hl]
      subst hlx
      refine ⟨xs, some a, cap, rfl, hb.2.1, ⟨rfl, by have := hb.2.2; have := hb.2.1; simp only [maxLen] at *; omega, fun _ => ⟨a, rfl, hx3⟩⟩, ?_⟩
      simp only [Rows.uptoBulk]
      omega
end Go.Proofs.Ytkgijkfcmbpgpaa.Giv
end
