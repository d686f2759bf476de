/- Joined by wip/pack.py out of: MWire2, MWire3, MWire4, MWire5, PureWirePuts, MOpen; what nothing here names is left out. -/
import Derived.ArgAppend
import Derived.Below
import Derived.BigQuiet
import Derived.DataElems
import Derived.Deep.AppendLies
import Derived.Deep.CutBlock
import Derived.Deep.DeepCutAuto
import Derived.Deep.Draws
import Derived.Deep.LoopGhost
import Derived.Deep.OwnRows
import Derived.Deep.QuietTactic
import Derived.Deep.RegionHeld3
import Derived.KernelRfl
import Derived.Laws.BitsLemmas
import Derived.Laws.BytesArg
import Derived.Laws.IdiomCopy
import Derived.Laws.MakeOwn
import Derived.Laws.OwnMore
import Derived.Laws.Rows
import Derived.Laws.Slices
import Derived.Laws.StructEq
import Derived.Lib.AppendStr
import Derived.Lib.ConvBytes
import Derived.MapPlaces
import Derived.Maps.AppendAt
import Derived.OrdersHeld
import Derived.OwnWalk
import Derived.RowKit
import Derived.RowKit3
import Derived.Shelf.Strings.Builder1
import Derived.Shelf.Strings.BuilderF
import Derived.Shelf.Strings.BuilderK
import Derived.Tactics
import Derived.WalkKit
import Derived.WideLaws
import Derived.Test.YtkgijkfcmbpgpaaO2b10
import Derived.Test.YtkgijkfcmbpgpaaO2b11
import Derived.Test.YtkgijkfcmbpgpaaO2b12
import Derived.Test.YtkgijkfcmbpgpaaO2b2
import Derived.Test.YtkgijkfcmbpgpaaO2b4
import Derived.Test.YtkgijkfcmbpgpaaO2b6
import Derived.Test.YtkgijkfcmbpgpaaO2b7
import Derived.Test.YtkgijkfcmbpgpaaO2b9
import Derived.Test.YtkgijkfcmbpgpaaProg
import Derived.Test.YtkgijkfcmbpgpaaRows
section
namespace Go.Proofs.Ytkgijkfcmbpgpaa.Giv
open Go.RowKit Go.Proofs.YtkgijkfcmbpgpaaW.PrintWords Go.Proofs.YtkgijkfcmbpgpaaW.PrintLast Go.Proofs.YtkgijkfcmbpgpaaW.PrintMore Go.Proofs.Ytkgijkfcmbpgpaa.PWir
set_option linter.unusedVariables false
set_option linter.unusedSimpArgs false
theorem baL_list (l : List UInt8) : (baL l).data.toList = l := by simp [baL]
theorem baL_size (l : List UInt8) : (baL l).size = l.length := by simp [baL, ByteArray.size]
theorem baL_toList (l : List UInt8) : (baL l).toList = l := by rw [ba_toList, baL_list]
theorem baL_of (s : ByteArray) : s = baL s.data.toList := ba_ext2 (by rw [baL_list])
theorem baL_app (l m : List UInt8) : baL l ++ baL m = baL (l ++ m) := by
  apply ba_ext2
  rw [ByteArray.data_append, Array.toList_append, baL_list, baL_list, baL_list]
theorem baL_ext (l : List UInt8) (i j : Nat) : (baL l).extract i j = baL ((l.take j).drop i) := by
  apply ba_ext2
  rw [baL_list, ByteArray.data_extract]
  show ((l.toArray).extract i j).toList = _
  rw [Array.toList_extract, List.extract_eq_take_drop, List.toList_toArray, List.drop_take]
theorem bt_baL (l : List UInt8) (i : Nat) : bt (baL l) (i : Int) = ((l.getD i 0).toNat : Int) := by
  unfold bt
  by_cases h : i < l.length
  · have h' : (i : Int).toNat < (baL l).size := by rw [baL_size]; simpa using h
    rw [dif_pos h']
    simp only [Int.toNat_natCast]
    have e : (baL l)[i]'(by rw [baL_size]; exact h) = l[i] := by
      have e1 : (baL l).data.toList[i]'(by rw [baL_list]; exact h) = l[i] := List.getElem_of_eq (baL_list l) _
      rw [← e1]
      rfl
    rw [e, List.getD_eq_getElem?_getD, List.getElem?_eq_getElem h]
    rfl
  · rw [dif_neg (by rw [baL_size]; simpa using h)]
    simp [List.getD_eq_getElem?_getD, h]
theorem toNat_of (n : Nat) (h : n < 256) : (UInt8.ofNat n).toNat = n := by
  simp [UInt8.toNat_ofNat_of_lt' (show n < UInt8.size from h)]
theorem numGo_cons (c : UInt8) (r : List UInt8) (n i : Nat) : numGo (c :: r) n i = if n * 128 + c.toNat % 128 > 65536 then (0, 0, 11) else if c.toNat ≥ 128 then numGo r (n * 128 + c.toNat % 128) (i + 1) else (n * 128 + c.toNat % 128, i + 1, 0) := by rw [numGo]
/-- What is written as_ a length is read again. -/
theorem numS_len (t : UInt8) (n : Nat) (rest : List UInt8) (h : n < 16384) : numS (t :: (lenL n ++ rest)) = (n, 1 + (lenL n).length, 0) := by
  unfold lenL numS
  by_cases h1 : n < 128
  · have e := toNat_of n (by omega)
    have hne : ¬ UInt8.ofNat n = 128 := fun q => by have := congrArg UInt8.toNat q; rw [e] at this; have h128 : (128 : UInt8).toNat = 128 := rfl; omega
    rw [if_pos h1, if_neg (by simp [hne]), List.drop_one, List.tail_cons, List.singleton_append, numGo_cons, e, if_neg (by omega), if_neg (by omega)]
    simp
    omega
  · have e := toNat_of (128 + n / 128) (by omega)
    have e2 := toNat_of (n % 128) (by omega)
    have hne : ¬ UInt8.ofNat (128 + n / 128) = 128 := fun q => by have := congrArg UInt8.toNat q; rw [e] at this; have h128 : (128 : UInt8).toNat = 128 := rfl; omega
    rw [if_neg h1, if_neg (fun q => hne q.2), List.drop_one, List.tail_cons, List.cons_append, List.singleton_append, numGo_cons, e, if_neg (by omega), if_pos (by omega), numGo_cons, e2, if_neg (by omega), if_neg (by omega)]
    simp
    omega
theorem numGo_err : ∀ (l : List UInt8) (n i : Nat), (numGo l n i).1 ≤ 65536 ∧ (numGo l n i).2.1 ≤ i + l.length ∧ ((numGo l n i).2.2 = 0 ∨ (numGo l n i).2.2 = 10 ∨ (numGo l n i).2.2 = 11)
  | [], n, i => by rw [numGo]; simp
  | c :: r, n, i => by
    rw [numGo_cons]
    split
    · simp
    · split
      · have := numGo_err r (n * 128 + c.toNat % 128) (i + 1)
        simp only [List.length_cons]
        omega
      · exact ⟨by show n * 128 + c.toNat % 128 ≤ 65536; omega, by show i + 1 ≤ i + (c :: r).length; simp, .inl rfl⟩
theorem number_some (l : List UInt8) (h : l.length ≤ 1000000) : wire_number.f (baL l) = some (((numS l).1 : Int), ((numS l).2.1 : Int), ((numS l).2.2 : Int)) := by
  unfold wire_number.f
  rw [if_pos (by rw [baL_size]; omega), baL_list]
theorem numS_err (l : List UInt8) : (numS l).1 ≤ 65536 ∧ (numS l).2.1 ≤ 1 + l.length ∧ ((numS l).2.2 = 0 ∨ (numS l).2.2 = 10 ∨ (numS l).2.2 = 11 ∨ (numS l).2.2 = 13) := by
  unfold numS
  split
  · simp
  · have := numGo_err (l.drop 1) 0 1
    rw [List.length_drop] at this
    omega
/-- A head, as_ it is read. -/
def hdV (l : List UInt8) (d a : Nat) : Bool × Int × ByteArray × List S44 × Int × Int × Int :=
  if 32 < d then (false, 0, ⟨#[]⟩, [], 0, 0, 12) else if l = [] then (false, 0, ⟨#[]⟩, [], 0, 0, 10) else if (l.getD 0 0).toNat % 128 = 0 then (false, 0, ⟨#[]⟩, [], 0, 0, 13)
  else if (numS l).2.2 ≠ 0 then (false, 0, ⟨#[]⟩, [], 0, 0, ((numS l).2.2 : Int)) else if 65536 < a + (numS l).2.1 + (numS l).1 then (false, 0, ⟨#[]⟩, [], 0, 0, 11)
  else if l.length < (numS l).2.1 + (numS l).1 then (if 0 < d then (false, 0, ⟨#[]⟩, [], 0, 0, 13) else (false, 0, ⟨#[]⟩, [], 0, 0, 10))
  else (decide (128 ≤ (l.getD 0 0).toNat), (((l.getD 0 0).toNat % 128 : Nat) : Int), ⟨#[]⟩, [], ((numS l).2.1 : Int), (((numS l).2.1 + (numS l).1 : Nat) : Int), 0)
theorem head_some (l : List UInt8) (d a k : Nat) (hl : l.length ≤ 1000000) (ha : a ≤ 1000000) (hk : 1 ≤ k) : wire_reader_head.f k (d : Int) (a : Int) (baL l) = some (hdV l d a) := by
  obtain ⟨k, rfl⟩ : ∃ j, k = j + 1 := ⟨k - 1, by omega⟩
  have hz := baL_size l
  have hb : bt (baL l) 0 = ((l.getD 0 0).toNat : Int) := bt_baL l 0
  have hbl := (l.getD 0 0).toNat_lt
  have hne := numS_err l
  have hno := number_some l hl
  unfold wire_reader_head.f hdV
  obtain ⟨c, hc⟩ : ∃ c, c = (l.getD 0 0).toNat := ⟨_, rfl⟩
  rw [hb, hno, ← hc, baL_toList, Option.bind_some]
  rw [← hc] at hbl
  have hb' : bt (baL l) 0 = (c : Int) := by rw [hb, hc]
  clear hno hb hc
  obtain ⟨⟨n, i, e⟩, hq⟩ : ∃ q, q = numS l := ⟨_, rfl⟩
  rw [← hq] at hne ⊢
  clear hq
  simp only at hne ⊢
  by_cases h1 : 32 < d
  · rw [if_pos (by omega), if_pos h1]
  rw [if_neg (by omega), if_neg h1]
  by_cases h2 : l = []
  · rw [if_pos h2, if_pos h2]
  have hpos : 0 < l.length := List.length_pos_iff.2 h2
  have ht : Int.tmod (c : Int) 128 = ((c % 128 : Nat) : Int) := by rw [Int.tmod_eq_emod_of_nonneg (by omega)]; omega
  rw [if_neg h2, if_neg h2, if_pos (by omega), ht]
  by_cases h3 : c % 128 = 0
  · rw [if_pos (by omega), if_pos h3]
  rw [if_neg (by omega), if_neg h3]
  by_cases h4 : e = 0
  · subst h4
    have w1 : wrap64 (wrap64 ((a : Int) + (i : Int)) + (n : Int)) = ((a + i + n : Nat) : Int) := by
      rw [show wrap64 ((a : Int) + (i : Int)) = ((a + i : Nat) : Int) from by unfold wrap64; omega]; unfold wrap64; omega
    have w2 : wrap64 (((baL l).size : Int) - (i : Int)) = (l.length : Int) - (i : Int) := by rw [hz]; unfold wrap64; omega
    have w3 : wrap64 ((i : Int) + (n : Int)) = ((i + n : Nat) : Int) := by unfold wrap64; omega
    have w4 : wrap64 ((c % 128 : Nat) : Int) = ((c % 128 : Nat) : Int) := by unfold wrap64; omega
    have hR : ¬ ((0 : Nat) ≠ 0) := by simp
    rw [if_pos (by rfl), if_neg hR, w1, w2]
    have W2 := Aside0.mk w2
    have W3 := Aside0.mk w3
    have W4 := Aside0.mk w4
    clear w1 w2 w3 w4 hz
    by_cases h5 : 65536 < a + i + n
    · rw [if_pos (by omega), if_pos h5]
    rw [if_neg (by omega), if_neg h5]
    by_cases h6 : l.length < i + n
    · rw [if_pos (by omega), if_pos h6]
      by_cases h7 : 0 < d
      · rw [decide_eq_true (by omega), if_pos h7, wire_reader_head.j0, if_pos rfl]
      · rw [decide_eq_false (by omega), if_neg h7, wire_reader_head.j0, if_neg (by simp), W2.out, if_pos (by omega)]
    · have hps : (0 : Int) < ((baL l).size : Int) := by rw [baL_size]; omega
      rw [if_neg (by omega), if_neg h6, wire_reader_head.j0, if_neg (by simp), W2.out, if_neg (by omega), if_pos hps, hb', ht, W4.out, W3.out]
      congr 2
      exact decide_eq_decide.2 (by omega)
  · rw [if_neg (by omega), if_pos h4]
end Go.Proofs.Ytkgijkfcmbpgpaa.Giv
end

section
namespace Go.Proofs.Ytkgijkfcmbpgpaa.Giv
open Go.RowKit Go.Proofs.YtkgijkfcmbpgpaaW.PrintWords Go.Proofs.YtkgijkfcmbpgpaaW.PrintLast Go.Proofs.YtkgijkfcmbpgpaaW.PrintMore Go.Proofs.Ytkgijkfcmbpgpaa.PWir
set_option linter.unusedVariables false
set_option linter.unusedSimpArgs false
theorem sub_len (l : List UInt8) (tt i : Nat) (h : tt ≤ l.length) : ((l.take tt).drop i).length = tt - i := by simp; omega
/-- What is written is read. -/
theorem hd_wr (x : S44) (d a : Nat) (rest : List UInt8) (hs : shp x d = true) (hz : isz x ≤ 3000) (ha : a + (wr x).length ≤ 65536) :
    hdV (wr x ++ rest) d a = (x.f0, x.f1, (⟨#[]⟩ : ByteArray), ([] : List S44), (((wr x).length - (if x.f0 then (wrL x.f3).length else x.f2.data.toList.length) : Nat) : Int), ((wr x).length : Int), (0 : Int)) := by
  have ht := shp_tag x d hs
  have hw := wr_len x
  have hd : d ≤ 32 := by
    rw [shp_eq] at hs
    simp only [Bool.and_eq_true, decide_eq_true_eq] at hs
    exact hs.1.1.1.1
  obtain ⟨body, hb⟩ : ∃ body, body = if x.f0 then wrL x.f3 else x.f2.data.toList := ⟨_, rfl⟩
  have e0 : wr x = tagB x.f0 x.f1 :: (lenL body.length ++ body) := by rw [wr_eq, hb]; split <;> rfl
  have eb : (if x.f0 then (wrL x.f3).length else x.f2.data.toList.length) = body.length := by rw [hb]; split <;> rfl
  have hln := lenL_len body.length
  have hlw : (wr x).length = 1 + (lenL body.length).length + body.length := by rw [e0]; simp; omega
  rw [eb]
  have hnum : numS (wr x ++ rest) = (body.length, 1 + (lenL body.length).length, 0) := by
    rw [e0, List.cons_append, List.append_assoc]
    exact numS_len _ _ _ (by omega)
  have hg : (wr x ++ rest).getD 0 0 = tagB x.f0 x.f1 := by rw [e0]; rfl
  have htn : (tagB x.f0 x.f1).toNat = x.f1.toNat + if x.f0 then 128 else 0 := by
    unfold tagB
    rw [toNat_of]
    split <;> omega
  have hmod : ¬ (x.f1.toNat + if x.f0 then 128 else 0) % 128 = 0 := by cases x.f0 <;> simp <;> omega
  unfold hdV
  rw [hnum, hg, htn]
  have hlen : (wr x ++ rest).length = (wr x).length + rest.length := by simp
  rw [if_neg (by omega), if_neg (by intro q; have := congrArg List.length q; rw [hlen, List.length_nil] at this; omega), if_neg hmod, if_neg (by simp), if_neg (by simp only; omega), if_neg (by simp only; omega)]
  simp only
  have h1 : (wr x).length - body.length = 1 + (lenL body.length).length := by omega
  have h2 : 1 + (lenL body.length).length + body.length = (wr x).length := by omega
  rw [h1, h2]
  cases hx : x.f0 with
  | true =>
    simp only [if_true]
    rw [decide_eq_true (by omega)]
    congr 2
    omega
  | false =>
    simp only [Bool.false_eq_true, if_false]
    rw [decide_eq_false (by omega)]
    congr 2
    omega
def FirstC (x : S44) : Prop := ∀ (d a k : Nat) (rest : List UInt8), shp x d = true → a + (wr x).length ≤ 65536 → rest.length ≤ 900000 → 8 * isz x ≤ k → wire_reader_first.f k (d : Int) (a : Int) (baL (wr x ++ rest)) = some (x.f0, x.f1, x.f2, x.f3, ((wr x).length : Int), 0)
theorem loop_comp (l : List UInt8) (tt d a : Nat) (hl : l.length ≤ 1000000) (htt : tt ≤ l.length) (hd : d ≤ 32) (ha : a + tt ≤ 65536) (t : Int) : ∀ (ys : List S44) (i k : Nat) (acc : List S44), (∀ y ∈ ys, FirstC y) → shpL ys (d + 1) = true → (l.take tt).drop i = wrL ys → i ≤ tt → acc.length + ys.length ≤ 100000 → 8 * iszL ys + 1 ≤ k →
    wire_reader_first.l0 k (baL l) (tt : Int) (i : Int) (d : Int) (a : Int) true t ⟨#[]⟩ acc = some (true, t, ⟨#[]⟩, acc ++ ys, (tt : Int), 0) := by
  intro ys
  induction ys with
  | nil =>
    intro i k acc _ _ hw hi _ hk
    obtain ⟨k, rfl⟩ : ∃ j, k = j + 1 := ⟨k - 1, by omega⟩
    have hsl := sub_len l tt i htt
    rw [hw, wrL] at hsl
    simp at hsl
    rw [wire_reader_first.l0, if_neg (by omega), List.append_nil]
  | cons y ys ih =>
    intro i k acc hy hs hw hi hacc hk
    obtain ⟨k, rfl⟩ : ∃ j, k = j + 1 := ⟨k - 1, by omega⟩
    have hsl := sub_len l tt i htt
    rw [iszL] at hk
    rw [shpL] at hs
    simp only [Bool.and_eq_true] at hs
    rw [wrL] at hw
    have hwl := wr_two y
    have hp := isz_pos y
    rw [hw, List.length_append] at hsl
    have hz := baL_size l
    have w1 : wrap64 ((d : Int) + 1) = ((d + 1 : Nat) : Int) := by unfold wrap64; omega
    have w2 : wrap64 ((a : Int) + (i : Int)) = ((a + i : Nat) : Int) := by unfold wrap64; omega
    have w3 : wrap64 ((i : Int) + ((wr y).length : Int)) = ((i + (wr y).length : Nat) : Int) := by unfold wrap64; omega
    have W3 := Aside0.mk w3
    clear w3
    simp only [List.length_cons] at hacc
    rw [wire_reader_first.l0, if_pos (by omega), if_pos (by omega), if_pos (by omega), if_pos (by omega), w1, w2, Int.toNat_natCast, Int.toNat_natCast, baL_ext, hw]
    clear w1 w2
    rw [hy y (by simp) (d + 1) (a + i) k (wrL ys) hs.1 (by omega) (by omega) (by omega), Option.bind_some]
    simp only
    rw [if_pos trivial, if_pos (by omega), W3.out, ih (i + (wr y).length) k _ (fun z hz => hy z (by simp [hz])) hs.2 (by rw [← List.drop_drop, hw, List.drop_left]) (by omega) (by simp; omega) (by omega)]
    have hye : (⟨y.f0, y.f1, y.f2, y.f3⟩ : S44) = y := by cases y; rfl
    rw [hye]
    simp
theorem comp_all : ∀ (N : Nat) (x : S44), isz x ≤ N → N ≤ 3000 → FirstC x := by
  intro N
  induction N with
  | zero => intro x hx; have := isz_pos x; omega
  | succ N ih =>
    intro x hx hN d a k rest hs ha hr hk
    have hp := isz_pos x
    have hz := isz_eq x
    have hw := wr_len x
    have hsz := shp_eq x d
    rw [hs] at hsz
    have hd : d ≤ 32 := by
      have h' := hs
      rw [shp_eq] at h'
      simp only [Bool.and_eq_true, decide_eq_true_eq] at h'
      exact h'.1.1.1.1
    have hl : (wr x ++ rest).length = (wr x).length + rest.length := by simp
    obtain ⟨k, rfl⟩ : ∃ j, k = j + 1 := ⟨k - 1, by omega⟩
    rw [wire_reader_first.f, head_some _ d a k (by omega) (by omega) (by omega), Option.bind_some, hd_wr x d a rest hs (by omega) ha]
    simp only
    rw [if_pos trivial]
    have e0 := wr_eq x
    cases hn : x.f0 with
    | true =>
      rw [hn] at e0 hsz
      simp only [if_true] at e0 hsz ⊢
      have hsz2 := hsz.symm
      simp only [Bool.and_eq_true, decide_eq_true_eq] at hsz2
      have hf2 : x.f2 = ⟨#[]⟩ := ba_ext2 (List.eq_nil_of_length_eq_zero (by simpa using hsz2.1.2))
      have hwl : (wr x).length = 1 + (lenL (wrL x.f3).length).length + (wrL x.f3).length := by rw [e0]; simp; omega
      have hxl := iszL_len x.f3
      have hbody : ((wr x ++ rest).take (wr x).length).drop ((wr x).length - (wrL x.f3).length) = wrL x.f3 := by
        rw [List.take_left, hwl]
        have : 1 + (lenL (wrL x.f3).length).length + (wrL x.f3).length - (wrL x.f3).length = (lenL (wrL x.f3).length).length + 1 := by omega
        rw [this, e0, List.drop_succ_cons, List.drop_left]
      rw [loop_comp (wr x ++ rest) (wr x).length d a (by omega) (by omega) hd (by omega) x.f1 x.f3 ((wr x).length - (wrL x.f3).length) k [] (fun y hy => ih y (by have := iszL_mem x.f3 y hy; omega) (by omega)) hsz2.2 hbody (by omega) (by simp; omega) (by omega), List.nil_append, ← hf2]
    | false =>
      rw [hn] at e0 hsz
      simp only [Bool.false_eq_true, if_false] at e0 hsz ⊢
      have hsz2 := hsz.symm
      simp only [Bool.and_eq_true, decide_eq_true_eq, List.isEmpty_iff] at hsz2
      have hwl : (wr x).length = 1 + (lenL x.f2.data.toList.length).length + x.f2.data.toList.length := by rw [e0]; simp; omega
      have hbody : ((wr x ++ rest).take (wr x).length).drop ((wr x).length - x.f2.data.toList.length) = x.f2.data.toList := by
        rw [List.take_left, hwl]
        have : 1 + (lenL x.f2.data.toList.length).length + x.f2.data.toList.length - x.f2.data.toList.length = (lenL x.f2.data.toList.length).length + 1 := by omega
        rw [this, e0, List.drop_succ_cons, List.drop_left]
      rw [if_pos (by omega), if_pos (by omega), if_pos (by rw [baL_size]; omega), Int.toNat_natCast, Int.toNat_natCast, baL_ext, hbody, ← baL_of, hsz2.1.2]
end Go.Proofs.Ytkgijkfcmbpgpaa.Giv
end

section
namespace Go.Proofs.Ytkgijkfcmbpgpaa.Giv
open Go.RowKit Go.Proofs.YtkgijkfcmbpgpaaW.PrintWords Go.Proofs.YtkgijkfcmbpgpaaW.PrintLast Go.Proofs.YtkgijkfcmbpgpaaW.PrintMore Go.Proofs.Ytkgijkfcmbpgpaa.PWir
set_option linter.unusedVariables false
set_option linter.unusedSimpArgs false
mutual
theorem sameB_refl : ∀ x : S44, sameB x x = true
  | ⟨n, t, s, l⟩ => by rw [sameB, sameL_refl l]; simp
theorem sameL_refl : ∀ l : List S44, sameL l l = true
  | [] => by rw [sameL]
  | x :: r => by rw [sameL, sameB_refl x, sameL_refl r]; rfl
end
theorem eta44 (x : S44) : (⟨x.f0, x.f1, x.f2, x.f3⟩ : S44) = x := by cases x; rfl
theorem same_some (x y : S44) (hz : isz x ≤ 100000000) : wire_Same.f x.f0 x.f1 x.f2 x.f3 y.f0 y.f1 y.f2 y.f3 = some (sameB x y) := by
  unfold wire_Same.f
  rw [eta44, eta44, if_pos hz]
theorem put_some (x : S44) (hz : isz x ≤ 3000) : wire_Put.f x.f0 x.f1 x.f2 x.f3 = some (if shp x 0 = true then (baL (wr x), 0) else (⟨#[]⟩, 1)) := by
  unfold wire_Put.f
  rw [eta44, if_pos hz]
  split <;> rfl
theorem First_some (x : S44) (rest : List UInt8) (hs : shp x 0 = true) (hz : isz x ≤ 3000) (hr : rest.length ≤ 900000) (k : Nat) (hk : 24000 ≤ k) : wire_First.f k (baL (wr x ++ rest)) = some (x.f0, x.f1, x.f2, x.f3, ((wr x).length : Int), 0) := by
  have hw := wr_len x
  have h := comp_all 3000 x hz (by omega) 0 0 k rest hs (by omega) hr (by omega)
  have h' : wire_reader_first.f k 0 0 (baL (wr x ++ rest)) = _ := h
  unfold wire_First.f
  rw [h', Option.bind_some]
theorem get_some (x : S44) (hs : shp x 0 = true) (hz : isz x ≤ 3000) (k : Nat) (hk : 24000 ≤ k) : wire_Get.f k (baL (wr x)) = some (x.f0, x.f1, x.f2, x.f3, 0) := by
  have h := First_some x [] hs hz (by simp) k hk
  rw [List.append_nil] at h
  unfold wire_Get.f
  rw [h, Option.bind_some]
  simp only
  rw [if_pos trivial, if_neg (by rw [baL_size]; omega)]
/-- How large an item is. -/
theorem ref_size_all : ∀ (N : Nat) (x : S44), isz x ≤ N → N ≤ 100000000 → ∀ k, 2 * isz x ≤ k → legateref01_size.f k x.f0 x.f1 x.f2 x.f3 = some (isz x : Int) := by
  intro N
  induction N with
  | zero => intro x hx; have := isz_pos x; omega
  | succ N ih =>
    intro x hx hN k hk
    have hp := isz_pos x
    have hz := isz_eq x
    obtain ⟨k, rfl⟩ : ∃ j, k = j + 1 := ⟨k - 1, by omega⟩
    have hxl := iszL_len x.f3
    have loop : ∀ (m i n k : Nat), i + m = x.f3.length → 2 * iszL (x.f3.drop i) + 1 ≤ k → n + iszL (x.f3.drop i) ≤ 100000000 → legateref01_size.l0 k (n : Int) (i : Int) x.f0 x.f1 x.f2 x.f3 = some ((n + iszL (x.f3.drop i) : Nat) : Int) := by
      intro m
      induction m with
      | zero =>
        intro i n k hi hk hn
        obtain ⟨k, rfl⟩ : ∃ j, k = j + 1 := ⟨k - 1, by omega⟩
        rw [legateref01_size.l0, if_neg (by omega), List.drop_eq_nil_of_le (by omega), iszL]
        rfl
      | succ m ihm =>
        intro i n k hi hk hn
        obtain ⟨k, rfl⟩ : ∃ j, k = j + 1 := ⟨k - 1, by omega⟩
        have hlt : i < x.f3.length := by omega
        have hd := iszL_drop x.f3 i hlt
        have hm := iszL_mem x.f3 _ (rd_mem x.f3 i hlt)
        have hpc := isz_pos (rd_T44 x.f3 (i : Int))
        have hc := ih (rd_T44 x.f3 (i : Int)) (by omega) (by omega) k (by omega)
        have g1 : (i : Int) < (x.f3.length : Int) := by omega
        have g2 : (0 : Int) ≤ (i : Int) := by omega
        have hnx := ihm (i + 1) (n + isz (rd_T44 x.f3 (i : Int))) k (by omega) (by omega) (by omega)
        have w1 : wrap64 ((n : Int) + (isz (rd_T44 x.f3 (i : Int)) : Int)) = ((n + isz (rd_T44 x.f3 (i : Int)) : Nat) : Int) := by unfold wrap64; omega
        have W1 := Aside0.mk w1
        clear w1
        have w2 : wrap64 ((i : Int) + 1) = ((i + 1 : Nat) : Int) := by unfold wrap64; omega
        rw [legateref01_size.l0, if_pos g1, if_pos g2, hc, Option.bind_some, W1.out, w2, hnx, hd, Nat.add_assoc]
    have w0 : wrap64 (1 + (x.f2.size : Int)) = ((1 + x.f2.size : Nat) : Int) := by unfold wrap64; omega
    have h := loop x.f3.length 0 (1 + x.f2.size) k (by omega) (by rw [List.drop_zero]; omega) (by rw [List.drop_zero]; omega)
    rw [List.drop_zero] at h
    have h' : legateref01_size.l0 k ((1 + x.f2.size : Nat) : Int) 0 x.f0 x.f1 x.f2 x.f3 = _ := h
    rw [legateref01_size.f, w0, h', hz]
theorem large_some (x : S44) (hz : isz x ≤ 100000000) (k : Nat) (hk : 2 * isz x ≤ k) : legateref01_Large.f k x.f0 x.f1 x.f2 x.f3 2000 = some (decide (2000 < isz x)) := by
  unfold legateref01_Large.f
  rw [ref_size_all _ x (Nat.le_refl _) hz k hk, Option.bind_some]
  congr 1
  exact decide_eq_decide.2 (by omega)
def exI : S44 := ⟨false, 1, ⟨#[104, 105]⟩, []⟩
def exT : S44 := ⟨true, 2, ⟨#[]⟩, [exI]⟩
theorem exT_isz : isz exT = 4 := by simp [exT, isz, iszL, exI]; rfl
theorem exT_shp : shp exT 0 = true := by simp [exT, shp, shpL, exI]; rfl
theorem exT_wr : wr exT = [130, 4, 1, 2, 104, 105] := by simp only [exT, wr, wrL, exI]; decide +kernel
theorem works01 (k : Nat) (hk : 24000 ≤ k) : legatelaw01_works.f k = some true := by
  have hz := exT_isz
  have hz0 : isz z44 ≤ 3000 := by rw [z44, isz, iszL]; decide
  have hp := put_some exT (by omega)
  rw [if_pos exT_shp] at hp
  have hg := get_some exT exT_shp (by omega) k hk
  have hf := First_some exT [122] exT_shp (by omega) (by simp) k hk
  have hs := same_some exT exT (by omega)
  rw [sameB_refl] at hs
  have hv := valid_some exT (by omega) k hk
  rw [exT_shp] at hv
  have hv0 := valid_some z44 hz0 k hk
  have hs0 : shp z44 0 = false := by rw [z44, shp]; simp
  rw [hs0] at hv0
  have e1 : wire_Put.f true 2 (⟨#[]⟩ : ByteArray) [exI] = _ := hp
  have e2 : ∀ y, y = exT → wire_Same.f true 2 (⟨#[]⟩ : ByteArray) [exI] y.f0 y.f1 y.f2 y.f3 = some true := fun y hy => by rw [hy]; exact hs
  have e3 : wire_Valid.f k true 2 (⟨#[]⟩ : ByteArray) [exI] = some true := hv
  have e4 : wire_Valid.f k false 0 (⟨#[]⟩ : ByteArray) ([] : List S44) = some false := hv0
  have e5 : baL (wr exT) ++ (⟨#[122]⟩ : ByteArray) = baL (wr exT ++ [122]) := baL_app (wr exT) [122]
  have hlen : (wr exT).length = 6 := by rw [exT_wr]; rfl
  unfold legatelaw01_works.f
  rw [Option.bind_some]
  show ((wire_Put.f true 2 (⟨#[]⟩ : ByteArray) [exI]).bind fun bt299 => _) = some true
  rw [e1, Option.bind_some]
  show ((wire_Get.f k (baL (wr exT))).bind fun bt301 => _) = some true
  rw [hg, Option.bind_some]
  show ((wire_Same.f true 2 (⟨#[]⟩ : ByteArray) [exI] exT.f0 exT.f1 exT.f2 exT.f3).bind fun t309 => _) = some true
  rw [e2 exT rfl, Option.bind_some]
  show (if (baL (wr exT)).size + 1 ≤ 9223372036854775807 then ((wire_First.f k (baL (wr exT) ++ (⟨#[122]⟩ : ByteArray))).bind fun bt310 => _) else none) = some true
  rw [if_pos (by rw [baL_size, hlen]; omega), e5, hf, Option.bind_some]
  show (if (baL (wr exT)).toList = ([130, 4, 1, 2, 104, 105] : List UInt8) then (if (0 : Int) = 0 then (if (0 : Int) = 0 then (if true = true then (if ((wr exT).length : Int) = 6 then (if (0 : Int) = 0 then ((wire_Valid.f k true 2 (⟨#[]⟩ : ByteArray) [exI]).bind fun t319 => (if t319 = true then ((wire_Valid.f k false 0 (⟨#[]⟩ : ByteArray) ([] : List (S44))).bind fun t320 => (some (!t320))) else (some false))) else (some false)) else (some false)) else (some false)) else (some false)) else (some false)) else (some false)) = some true
  rw [if_pos (by rw [baL_toList, exT_wr]), if_pos rfl, if_pos rfl, if_pos rfl, if_pos (by rw [hlen]; rfl), if_pos rfl, e3, Option.bind_some, if_pos rfl, e4, Option.bind_some]
  rfl
/-- A length that is cut is short. -/
theorem num_cut (t : UInt8) (n : Nat) (body : List UInt8) (c : Nat) (hc : c < (lenL n).length) (hn : n < 16384) : numS (t :: ((lenL n ++ body).take c)) = (0, 0, 10) := by
  have h2 := lenL_len n
  have hcc : c = 0 ∨ c = 1 := by omega
  rcases hcc with rfl | rfl
  · rw [List.take_zero]
    unfold numS
    rw [if_neg (by simp)]
    rfl
  · have h1 : ¬ n < 128 := by
      intro h
      unfold lenL at hc
      rw [if_pos h] at hc
      simp at hc
    have e := toNat_of (128 + n / 128) (by omega)
    have hne : ¬ UInt8.ofNat (128 + n / 128) = 128 := fun q => by have := congrArg UInt8.toNat q; rw [e] at this; have h128 : (128 : UInt8).toNat = 128 := rfl; omega
    have hl : (lenL n ++ body).take 1 = [UInt8.ofNat (128 + n / 128)] := by unfold lenL; rw [if_neg h1]; rfl
    rw [hl]
    unfold numS
    rw [if_neg (fun q => hne q.2), List.drop_one, List.tail_cons, numGo_cons, e, if_neg (by omega), if_pos (by omega)]
    rfl
end Go.Proofs.Ytkgijkfcmbpgpaa.Giv
end

section
namespace Go.Proofs.Ytkgijkfcmbpgpaa.Giv
open Go.RowKit Go.Proofs.YtkgijkfcmbpgpaaW.PrintWords Go.Proofs.YtkgijkfcmbpgpaaW.PrintLast Go.Proofs.YtkgijkfcmbpgpaaW.PrintMore Go.Proofs.Ytkgijkfcmbpgpaa.PWir
set_option linter.unusedVariables false
set_option linter.unusedSimpArgs false
theorem str_one (n : Nat) (h : n < 256) : strOfNums [(n : Int)] = baL [UInt8.ofNat n] := by
  apply ba_ext2
  rw [baL_list]
  simp [strOfNums]
theorem ref_length (n k : Nat) (h : n < 16384) (hk : 3 ≤ k) : legateref01_Length.f k (n : Int) = some (baL (lenL n)) := by
  obtain ⟨k, rfl⟩ : ∃ j, k = j + 3 := ⟨k - 3, by omega⟩
  have e1 : Int.tdiv (n : Int) 128 = ((n / 128 : Nat) : Int) := by rw [Int.tdiv_eq_ediv_of_nonneg (by omega)]; omega
  have e2 : Int.tmod (n : Int) 128 = ((n % 128 : Nat) : Int) := by rw [Int.tmod_eq_emod_of_nonneg (by omega)]; omega
  have e3 : wrap64 ((n / 128 : Nat) : Int) = ((n / 128 : Nat) : Int) := by unfold wrap64; omega
  have e4 : ((n % 128 : Nat) : Int) % 256 = ((n % 128 : Nat) : Int) := by omega
  unfold legateref01_Length.f lenL
  rw [e1, e2, e3, e4, str_one _ (by omega)]
  clear e1 e2 e3 e4
  by_cases h1 : n < 128
  · have h2 : n / 128 = 0 := by omega
    have h3 : n % 128 = n := by omega
    rw [h2, h3, if_pos h1, legateref01_Length.l0, if_neg (by omega)]
  · have f1 : Int.tdiv ((n / 128 : Nat) : Int) 128 = 0 := by rw [Int.tdiv_eq_ediv_of_nonneg (by omega)]; omega
    have f2 : Int.tmod ((n / 128 : Nat) : Int) 128 = ((n / 128 : Nat) : Int) := by rw [Int.tmod_eq_emod_of_nonneg (by omega)]; omega
    have f3 : (wrap64 (128 + ((n / 128 : Nat) : Int))) % 256 = ((128 + n / 128 : Nat) : Int) := by unfold wrap64; omega
    have f4 : wrap64 0 = 0 := by unfold wrap64; omega
    have F3 := Aside0.mk f3
    have F4 := Aside0.mk f4
    clear f3 f4
    rw [if_neg h1, legateref01_Length.l0, if_pos (by omega), f1, f2, F3.out, F4.out, Option.bind_some, str_one _ (by omega), baL_app, if_pos (by rw [baL_size, baL_size]; simp), legateref01_Length.l0, if_neg (by omega)]
    rfl
theorem ref_write_all : ∀ (N : Nat) (x : S44), isz x ≤ N → N ≤ 3000 → ∀ (d k : Nat), shp x d = true → 8 * isz x ≤ k → legateref01_Write.f k x.f0 x.f1 x.f2 x.f3 = some (baL (wr x)) := by
  intro N
  induction N with
  | zero => intro x hx; have := isz_pos x; omega
  | succ N ih =>
    intro x hx hN d k hs hk
    have hp := isz_pos x
    have hz := isz_eq x
    have hw := wr_len x
    have ht := shp_tag x d hs
    have hkids := shp_kids x d hs
    obtain ⟨k, rfl⟩ : ∃ j, k = j + 1 := ⟨k - 1, by omega⟩
    have hxl := iszL_len x.f3
    rw [legateref01_Write.f]
    cases hn : x.f0 with
    | true =>
      have e0 : wr x = tagB true x.f1 :: (lenL (wrL x.f3).length ++ wrL x.f3) := wr_node x hn
      have hwl : (wr x).length = 1 + (lenL (wrL x.f3).length).length + (wrL x.f3).length := by rw [e0]; simp; omega
      have htn := tag_node x.f1 ht
      have w0 : wrap64 (x.f1 + 128) = ((tagB true x.f1).toNat : Int) := by rw [htn]; unfold wrap64; omega
      have htl := (tagB true x.f1).toNat_lt
      have loop : ∀ (m i k : Nat), i + m = x.f3.length → 8 * iszL (x.f3.drop i) + 4 ≤ k → legateref01_Write.l0 k (baL (wrL (x.f3.take i))) ((tagB true x.f1).toNat : Int) (i : Int) true x.f1 x.f2 x.f3 = some (baL (wr x)) := by
        intro m
        induction m with
        | zero =>
          intro i k hi hk
          obtain ⟨k, rfl⟩ : ∃ j, k = j + 1 := ⟨k - 1, by omega⟩
          have hl := ref_length (wrL x.f3).length k (by omega) (by omega)
          have hl' : legateref01_Length.f k ((baL (wrL x.f3)).size : Int) = some (baL (lenL (wrL x.f3).length)) := by rw [baL_size]; exact hl
          have hmod : ((tagB true x.f1).toNat : Int) % 256 = ((tagB true x.f1).toNat : Int) := by omega
          rw [legateref01_Write.l0, if_neg (by omega), Option.bind_some, List.take_of_length_le (by omega), hl', Option.bind_some, hmod, str_one _ (by omega), UInt8.ofNat_toNat, baL_app, baL_app, if_pos (by rw [baL_size, baL_size]; simp; omega), if_pos (by rw [baL_size, baL_size]; simp; omega), e0]
          simp
        | succ m ihm =>
          intro i k hi hk
          obtain ⟨k, rfl⟩ : ∃ j, k = j + 1 := ⟨k - 1, by omega⟩
          have hlt : i < x.f3.length := by omega
          have hd := iszL_drop x.f3 i hlt
          have hm := iszL_mem x.f3 _ (rd_mem x.f3 i hlt)
          have hpc := isz_pos (rd_T44 x.f3 (i : Int))
          have hc := ih (rd_T44 x.f3 (i : Int)) (by omega) (by omega) (d + 1) k (shpL_mem x.f3 (d + 1) hkids _ (rd_mem x.f3 i hlt)) (by omega)
          have hwt := wrL_take x.f3 i hlt
          have hnx := ihm (i + 1) k (by omega) (by omega)
          rw [hwt] at hnx
          have hwc := wr_len (rd_T44 x.f3 (i : Int))
          have hwk := wrL_len (x.f3.take i)
          have hik := iszL_take x.f3 i
          have w2 : wrap64 ((i : Int) + 1) = ((i + 1 : Nat) : Int) := by unfold wrap64; omega
          have W2 := Aside0.mk w2
          clear w2 w0
          rw [legateref01_Write.l0, if_pos (by omega), if_pos (by omega), hc, Option.bind_some, baL_app, if_pos (by rw [baL_size, baL_size]; omega), W2.out, hnx]
      have h := loop x.f3.length 0 k (by omega) (by rw [List.drop_zero]; omega)
      rw [List.take_zero, wrL] at h
      rw [if_pos rfl, w0]
      exact h
    | false =>
      have e0 : wr x = tagB false x.f1 :: (lenL x.f2.data.toList.length ++ x.f2.data.toList) := wr_leaf x hn
      have hsl : x.f2.data.toList.length = x.f2.size := by simp
      have hwl : (wr x).length = 1 + (lenL x.f2.size).length + x.f2.size := by rw [e0]; simp only [List.length_cons, List.length_append, hsl]; omega
      have htn := tag_leaf x.f1 ht
      have htl := (tagB false x.f1).toNat_lt
      have hmod : x.f1 % 256 = ((tagB false x.f1).toNat : Int) := by omega
      rw [if_neg (by simp), Option.bind_some, ref_length x.f2.size k (by omega) (by omega), Option.bind_some, hmod, str_one _ (by omega), UInt8.ofNat_toNat, baL_app, if_pos (by rw [baL_size, baL_size]; simp; omega), if_pos (by rw [baL_size]; simp; omega)]
      have e5 : baL ([tagB false x.f1] ++ lenL x.f2.size) ++ x.f2 = baL (wr x) := by
        rw [baL_of x.f2, baL_app, e0, ← baL_of x.f2, hsl]
        simp
      rw [e5]
theorem ref_shape_all : ∀ (N : Nat) (x : S44), isz x ≤ N → N ≤ 3000 → ∀ (d k : Nat), d ≤ 40 → 3 * isz x ≤ k → legateref01_shape.f k x.f0 x.f1 x.f2 x.f3 (d : Int) = some (shp x d) := by
  intro N
  induction N with
  | zero => intro x hx; have := isz_pos x; omega
  | succ N ih =>
    intro x hx hN d k hd hk
    have hp := isz_pos x
    have hz := isz_eq x
    have hse := shp_eq x d
    obtain ⟨k, rfl⟩ : ∃ j, k = j + 2 := ⟨k - 2, by omega⟩
    have hxl := iszL_len x.f3
    have out : legateref01_shape.j0 (k + 1) (d : Int) true x.f0 x.f1 x.f2 x.f3 = some false := by rw [legateref01_shape.j0, if_pos rfl]
    rw [legateref01_shape.f]
    by_cases h1 : (d : Int) > 32
    · rw [if_pos h1, out, hse, decide_eq_false (by omega)]; simp
    rw [if_neg h1]
    by_cases h2 : x.f1 < 1
    · rw [if_pos h2, out, hse, decide_eq_false (show ¬ 1 ≤ x.f1 by omega)]; simp
    rw [if_neg h2]
    by_cases h3 : x.f1 > 127
    · rw [if_pos h3, out, hse, decide_eq_false (show ¬ x.f1 ≤ 127 by omega)]; simp
    rw [if_neg h3]
    rw [decide_eq_true (show d ≤ 32 by omega), decide_eq_true (show 1 ≤ x.f1 by omega), decide_eq_true (show x.f1 ≤ 127 by omega)] at hse
    simp only [Bool.true_and] at hse
    have loop : ∀ (m i k : Nat), i + m = x.f3.length → 3 * iszL (x.f3.drop i) + 1 ≤ k → legateref01_shape.l0 k (d : Int) (i : Int) x.f0 x.f1 x.f2 x.f3 = some (shpL (x.f3.drop i) (d + 1)) := by
      intro m
      induction m with
      | zero =>
        intro i k hi hk
        obtain ⟨k, rfl⟩ : ∃ j, k = j + 1 := ⟨k - 1, by omega⟩
        rw [legateref01_shape.l0, if_neg (by omega), List.drop_eq_nil_of_le (by omega), shpL]
      | succ m ihm =>
        intro i k hi hk
        obtain ⟨k, rfl⟩ : ∃ j, k = j + 1 := ⟨k - 1, by omega⟩
        have hlt : i < x.f3.length := by omega
        have hdd := iszL_drop x.f3 i hlt
        have hm := iszL_mem x.f3 _ (rd_mem x.f3 i hlt)
        have hpc := isz_pos (rd_T44 x.f3 (i : Int))
        have hc := ih (rd_T44 x.f3 (i : Int)) (by omega) (by omega) (d + 1) k (by omega) (by omega)
        have hnx := ihm (i + 1) k (by omega) (by omega)
        have g1 : (i : Int) < (x.f3.length : Int) := by omega
        have g2 : (0 : Int) ≤ (i : Int) := by omega
        have w1 : wrap64 ((d : Int) + 1) = ((d + 1 : Nat) : Int) := by unfold wrap64; omega
        have W1 := Aside0.mk w1
        clear w1
        have w2 : wrap64 ((i : Int) + 1) = ((i + 1 : Nat) : Int) := by unfold wrap64; omega
        rw [legateref01_shape.l0, if_pos g1, if_pos g2, W1.out, hc, Option.bind_some, w2, hnx, drop_rd x.f3 i hlt, shpL]
        cases shp (rd_T44 x.f3 (i : Int)) (d + 1) <;> simp
    have h := loop x.f3.length 0 k (by omega) (by rw [List.drop_zero]; omega)
    rw [List.drop_zero] at h
    have go : ∀ b : Bool, legateref01_shape.j0 (k + 1) (d : Int) b x.f0 x.f1 x.f2 x.f3 = some (!b && shpL x.f3 (d + 1)) := by
      intro b
      cases b with
      | true => rw [out]; rfl
      | false => rw [legateref01_shape.j0, if_neg (by simp)]; exact h
    cases hn : x.f0 with
    | true =>
      rw [hn] at hse go
      simp only [if_true] at hse
      rw [if_pos rfl]
      by_cases h4 : x.f2.size = 0
      · have e4 : x.f2.toList = ([] : List UInt8) := by rw [ba_toList]; exact List.eq_nil_of_length_eq_zero (by simpa using h4)
        rw [if_pos e4, go, hse, decide_eq_true h4]; rfl
      · have e4 : ¬ x.f2.toList = ([] : List UInt8) := by rw [ba_toList]; intro e; exact h4 (by have := congrArg List.length e; simpa using this)
        rw [if_neg e4, go, hse, decide_eq_false h4]; rfl
    | false =>
      rw [hn] at hse go
      simp only [Bool.false_eq_true, if_false] at hse
      rw [if_neg (by simp), go, hse]
      cases hl : x.f3 with
      | nil => simp
      | cons a r => simp
theorem ref_valid (x : S44) (hz : isz x ≤ 3000) (k : Nat) (hk : 24000 ≤ k) : legateref01_Valid.f k x.f0 x.f1 x.f2 x.f3 = some (shp x 0) := by
  have h : legateref01_shape.f k x.f0 x.f1 x.f2 x.f3 0 = some (shp x 0) := ref_shape_all 3000 x hz (by omega) 0 k (by omega) (by omega)
  have hw := wr_len x
  unfold legateref01_Valid.f
  rw [h, Option.bind_some]
  by_cases hs : shp x 0 = true
  · rw [hs, if_pos rfl, ref_write_all 3000 x hz (by omega) 0 k hs (by omega), Option.bind_some, decide_eq_true (by rw [baL_size]; omega)]
  · rw [if_neg hs]
    have : shp x 0 = false := by simpa using hs
    rw [this]
theorem ref_put (x : S44) (hz : isz x ≤ 3000) (k : Nat) (hk : 24000 ≤ k) : legateref01_Put.f k x.f0 x.f1 x.f2 x.f3 = some (if shp x 0 = true then (baL (wr x), 0) else (⟨#[]⟩, 1)) := by
  unfold legateref01_Put.f
  rw [ref_valid x hz k hk, Option.bind_some]
  by_cases hs : shp x 0 = true
  · rw [if_pos hs, ref_write_all 3000 x hz (by omega) 0 k hs (by omega), Option.bind_some, if_pos hs]
  · rw [if_neg hs, if_neg hs]
theorem ref_same_all : ∀ (N : Nat) (x y : S44), isz x ≤ N → N ≤ 100000 → ∀ k, 3 * isz x ≤ k → legateref01_Same.f k x.f0 x.f1 x.f2 x.f3 y.f0 y.f1 y.f2 y.f3 = some (sameB x y) := by
  intro N
  induction N with
  | zero => intro x y hx; have := isz_pos x; omega
  | succ N ih =>
    intro x y hx hN k hk
    have hp := isz_pos x
    have hz := isz_eq x
    have hse : sameB x y = ((x.f0 == y.f0) && decide (x.f1 = y.f1) && (x.f2.data.toList == y.f2.data.toList) && sameL x.f3 y.f3) := by cases x; cases y; rw [sameB]
    obtain ⟨k, rfl⟩ : ∃ j, k = j + 2 := ⟨k - 2, by omega⟩
    have hxl := iszL_len x.f3
    have out : legateref01_Same.j0 (k + 1) true x.f0 x.f1 x.f2 x.f3 y.f0 y.f1 y.f2 y.f3 = some false := by rw [legateref01_Same.j0, if_pos rfl]
    rw [legateref01_Same.f]
    by_cases h1 : x.f0 = y.f0
    case neg =>
      have e1 : (x.f0 != y.f0) = true := by simpa using h1
      rw [if_pos e1, out, hse, beq_eq_false_iff_ne.2 h1]; simp
    have e1 : ¬ (x.f0 != y.f0) = true := by simpa using h1
    rw [if_neg e1]
    by_cases h2 : x.f1 = y.f1
    case neg => rw [if_neg h2, out, hse, decide_eq_false h2]; simp
    rw [if_pos h2]
    by_cases h3 : x.f2.toList = y.f2.toList
    case neg =>
      have e3 : (x.f2.data.toList == y.f2.data.toList) = false := beq_eq_false_iff_ne.2 fun h => h3 (by rw [ba_ext2 h])
      rw [if_neg h3, out, hse, e3]; simp
    have e3 : (x.f2.data.toList == y.f2.data.toList) = true := beq_iff_eq.2 (by rw [ba_toList_inj h3])
    rw [if_pos h3]
    rw [beq_iff_eq.2 h1, decide_eq_true h2, e3] at hse
    simp only [Bool.true_and] at hse
    by_cases h4 : x.f3.length = y.f3.length
    case neg =>
      have e4 : ((x.f3.length : Int) != (y.f3.length : Int)) = true := by simp; omega
      rw [e4, out, hse, sameL_len _ _ h4]
    have e4 : ((x.f3.length : Int) != (y.f3.length : Int)) = false := by simp; omega
    have loop : ∀ (m i k : Nat), i + m = x.f3.length → 3 * iszL (x.f3.drop i) + 1 ≤ k → legateref01_Same.l0 k (i : Int) x.f0 x.f1 x.f2 x.f3 y.f0 y.f1 y.f2 y.f3 = some (sameL (x.f3.drop i) (y.f3.drop i)) := by
      intro m
      induction m with
      | zero =>
        intro i k hi hk
        obtain ⟨k, rfl⟩ : ∃ j, k = j + 1 := ⟨k - 1, by omega⟩
        rw [legateref01_Same.l0, if_neg (by omega), List.drop_eq_nil_of_le (by omega), List.drop_eq_nil_of_le (by omega), sameL]
      | succ m ihm =>
        intro i k hi hk
        obtain ⟨k, rfl⟩ : ∃ j, k = j + 1 := ⟨k - 1, by omega⟩
        have hlt : i < x.f3.length := by omega
        have hlt2 : i < y.f3.length := by omega
        have hdd := iszL_drop x.f3 i hlt
        have hm := iszL_mem x.f3 _ (rd_mem x.f3 i hlt)
        have hpc := isz_pos (rd_T44 x.f3 (i : Int))
        have hc := ih (rd_T44 x.f3 (i : Int)) (rd_T44 y.f3 (i : Int)) (by omega) (by omega) k (by omega)
        have hnx := ihm (i + 1) k (by omega) (by omega)
        have g1 : (i : Int) < (x.f3.length : Int) := by omega
        have g2 : (0 : Int) ≤ (i : Int) := by omega
        have g3 : (i : Int) < (y.f3.length : Int) := by omega
        have w2 : wrap64 ((i : Int) + 1) = ((i + 1 : Nat) : Int) := by unfold wrap64; omega
        rw [legateref01_Same.l0, if_pos g1, if_pos g2, if_pos g3, hc, Option.bind_some, w2, hnx, drop_rd x.f3 i hlt, drop_rd y.f3 i hlt2, sameL]
        cases sameB (rd_T44 x.f3 (i : Int)) (rd_T44 y.f3 (i : Int)) <;> simp
    have h := loop x.f3.length 0 k (by omega) (by rw [List.drop_zero]; omega)
    rw [List.drop_zero, List.drop_zero] at h
    rw [e4, legateref01_Same.j0, if_neg (by simp), hse]
    exact h
end Go.Proofs.Ytkgijkfcmbpgpaa.Giv
end

section
namespace Go.Proofs.Ytkgijkfcmbpgpaa.Pure
open Go.RowKit Go.Proofs.Ytkgijkfcmbpgpaa.PWir Go.Proofs.YtkgijkfcmbpgpaaW.PrintWords Go.Proofs.YtkgijkfcmbpgpaaW.PrintLast
open Go.Proofs.Ytkgijkfcmbpgpaa.Giv
set_option linter.unusedVariables false
set_option linter.unusedSimpArgs false

theorem puts_out (k : Nat) (x y : S44) : legatelaw01_WirePuts.j0 (k + 1) true true x.f0 x.f1 x.f2 x.f3 y.f0 y.f1 y.f2 y.f3 = some true := by
  rw [legatelaw01_WirePuts.j0, if_pos rfl]
theorem puts_in (k : Nat) (hk : 40000 ≤ k) (x y : S44) (hx : isz x ≤ 2000) : legatelaw01_WirePuts.j0 (k + 1) true false x.f0 x.f1 x.f2 x.f3 y.f0 y.f1 y.f2 y.f3 = some true := by
  rw [legatelaw01_WirePuts.j0, if_neg (by simp), put_some x (by omega), Option.bind_some, ref_put x (by omega) k (by omega), Option.bind_some, ref_same_all _ x y (Nat.le_refl _) (by omega) k (by omega), Option.bind_some, ref_valid x (by omega) k (by omega), Option.bind_some,
    if_pos rfl, if_pos rfl, if_pos rfl, same_some x y (by omega), Option.bind_some, if_pos (by simp), same_some x x (by omega), Option.bind_some, sameB_refl, if_pos rfl, valid_some x (by omega) k (by omega), Option.bind_some]
  simp
theorem WirePuts (x y : S44) (hx : isz x ≤ 4000000) (hy : isz y ≤ 4000000) : ∃ k, legatelaw01_WirePuts.f k x.f0 x.f1 x.f2 x.f3 y.f0 y.f1 y.f2 y.f3 = some true := by
  refine ⟨9000000 + 1, ?_⟩
  generalize hk : 9000000 = k
  unfold legatelaw01_WirePuts.f
  rw [works01 _ (by omega), Option.bind_some, if_pos rfl, large_some x (by omega) _ (by omega), Option.bind_some, large_some y (by omega) _ (by omega), Option.bind_some]
  by_cases h1 : 2000 < isz x
  · rw [decide_eq_true h1, if_pos rfl]; exact puts_out k x y
  · rw [decide_eq_false h1, if_neg (by simp)]
    by_cases h2 : 2000 < isz y
    · rw [decide_eq_true h2]; exact puts_out k x y
    · rw [decide_eq_false h2]; exact puts_in k (by omega) x y (by omega)

end Go.Proofs.Ytkgijkfcmbpgpaa.Pure
end

section
namespace Go.Proofs.Ytkgijkfcmbpgpaa.Giv
open Go.RowKit Go.Proofs.YtkgijkfcmbpgpaaW.PrintWords Go.Proofs.Ytkgijkfcmbpgpaa.PWir
set_option linter.unusedVariables false
set_option linter.unusedSimpArgs false
variable {H : Type} {enc : TypeId × Value → H} {w : World}
theorem cellsOf44 : Try.prog.cellsOf 44 = 4 := by kernel_rfl
theorem cellsOf42 : Try.prog.cellsOf 42 = 1 := by kernel_rfl
theorem cellsOf4 : Try.prog.cellsOf 4 = 1 := by kernel_rfl
theorem cellsOf3 : Try.prog.cellsOf 3 = 1 := by kernel_rfl
theorem cellsOf9 : Try.prog.cellsOf 9 = 1 := by kernel_rfl
noncomputable def rd0 (enc : TypeId × Value → H) (w : World) (fuel : Nat) (t : TypeId) (cs : List Value) : Option (DataW H × List MemPlace) := DataW.trod enc Try.prog w 0 (fun _ => true) true fuel t cs
theorem open_b (fuel : Nat) (v : Value) (d : DataW H) (ps : List MemPlace) (h : rd0 enc w fuel 4 [v] = some (d, ps)) : ∃ b, v = .bool b ∧ d = .lit (.bool b) := by
  cases fuel with
  | zero => simp [rd0, DataW.trod] at h
  | succ n =>
    unfold rd0 DataW.trod at h
    simp only [Try.underlying4] at h
    split at h <;> simp_all
theorem open_i (fuel : Nat) (v : Value) (d : DataW H) (ps : List MemPlace) (h : rd0 enc w fuel 3 [v] = some (d, ps)) : ∃ n, v = .int .i64 n ∧ d = .lit (.int .i64 n) := by
  cases fuel with
  | zero => simp [rd0, DataW.trod] at h
  | succ n =>
    unfold rd0 DataW.trod at h
    simp only [Try.underlying3] at h
    split at h <;> simp_all
theorem open_s (fuel : Nat) (v : Value) (d : DataW H) (ps : List MemPlace) (h : rd0 enc w fuel 9 [v] = some (d, ps)) : ∃ s, v = .string s ∧ d = .lit (.string s.data.toList) := by
  cases fuel with
  | zero => simp [rd0, DataW.trod] at h
  | succ n =>
    unfold rd0 DataW.trod at h
    simp only [Try.underlying9] at h
    split at h <;> simp_all
theorem mapM_getElem {α β : Type} {f : α → Option β} : ∀ (l : List α) (r : List β), l.mapM f = some r → r.length = l.length ∧ ∀ (j : Nat) (a : α), l[j]? = some a → ∃ b : β, r[j]? = some b ∧ f a = some b
  | [], r, h => by
    simp at h
    subst h
    exact ⟨rfl, fun j a hj => by simp at hj⟩
  | x :: l, r, h => by
    rw [List.mapM_cons] at h
    cases hx : f x with
    | none => simp [hx] at h
    | some b =>
      cases hl : l.mapM f with
      | none => simp [hx, hl] at h
      | some bs =>
        simp [hx, hl] at h
        subst h
        obtain ⟨e, k⟩ := mapM_getElem l bs hl
        refine ⟨by simp [e], fun j a hj => ?_⟩
        cases j with
        | zero => simp at hj; subst hj; exact ⟨b, rfl, hx⟩
        | succ j => simpa using k j a (by simpa using hj)
/-- Items one behind the other, each as_ it is read. -/
def IsRow (w : World) (ad : Addr) (r : List (DataW H × List MemPlace)) (xs : List S44) : Prop := xs.length = r.length ∧ iszL xs ≤ Rows.uptoBulkAll (r.map (·.1)) ∧ ∀ j p, xs[j]? = some p → ∃ c, c.length = 4 ∧ k44.K w p c ∧ ∀ i u, c[i]? = some u → w.cell? (ad.add (j * 4 + i)) = some u
theorem rows_of {ad : Addr} (g : Nat → Option (DataW H × List MemPlace)) (hg : ∀ i d ps, g i = some (d, ps) → ∃ x c, c.length = 4 ∧ k44.K w x c ∧ isz x ≤ Rows.uptoBulk d ∧ ∀ j u, c[j]? = some u → w.cell? (ad.add (i * 4 + j)) = some u) :
    ∀ (n : Nat) (r : List (DataW H × List MemPlace)), (List.range n).mapM g = some r → ∃ xs, IsRow w ad r xs := by
  intro n
  induction n with
  | zero =>
    intro r h
    simp at h
    subst h
    exact ⟨[], rfl, Nat.le_refl _, fun j p hj => by simp at hj⟩
  | succ n ih =>
    intro r h
    rw [List.range_succ, List.mapM_append] at h
    cases h1 : (List.range n).mapM g with
    | none => simp [h1] at h
    | some r1 =>
      cases h2 : g n with
      | none => simp [h1, h2] at h
      | some b =>
        simp [h1, h2] at h
        subst h
        obtain ⟨xs, e, hs, hx⟩ := ih r1 h1
        obtain ⟨x, c, hc, hk, hz, hcell⟩ := hg n b.1 b.2 h2
        have hn : r1.length = n := by simpa using (mapM_getElem _ _ h1).1
        refine ⟨xs ++ [x], by simp [e], ?_, fun j p hj => ?_⟩
        · have a1 : ∀ (a b : List (DataW H)), Rows.uptoBulkAll (a ++ b) = Rows.uptoBulkAll a + Rows.uptoBulkAll b := by
            intro a b
            induction a with
            | nil => simp [Rows.uptoBulkAll]
            | cons y ys ihh => simp only [List.cons_append, Rows.uptoBulkAll, ihh]; omega
          have a2 : ∀ (a b : List S44), iszL (a ++ b) = iszL a + iszL b := by
            intro a b
            induction a with
            | nil => simp [iszL]
            | cons y ys ihh => simp only [List.cons_append, iszL, ihh]; omega
          rw [a2, List.map_append, a1]
          simp only [iszL, List.map_cons, List.map_nil, Rows.uptoBulkAll]
          omega
        · by_cases hj2 : j < xs.length
          · rw [List.getElem?_append_left hj2] at hj
            exact hx j p hj
          · rw [List.getElem?_append_right (by omega)] at hj
            have : j - xs.length = 0 := by
              cases hq : j - xs.length with
              | zero => rfl
              | succ m => rw [hq] at hj; simp at hj
            rw [this] at hj
            simp at hj
            subst hj
            have : j = n := by omega
            subst this
            exact ⟨c, hc, hk, hcell⟩
theorem cells_of {ad : Addr} {n : Nat} {cs : List Value} (h : w.cells? 0 ad n = some cs) : cs.length = n ∧ ∀ j u, cs[j]? = some u → w.cell? (ad.add j) = some u := by
  unfold World.cells? at h
  rw [if_pos (Nat.zero_le _)] at h
  obtain ⟨e, k⟩ := mapM_getElem _ _ h
  rw [List.length_range] at e
  refine ⟨e, fun j u hj => ?_⟩
  have hl : j < cs.length := by
    rcases Nat.lt_or_ge j cs.length with q | q
    · exact q
    · rw [List.getElem?_eq_none q] at hj; cases hj
  obtain ⟨b, hb, hf⟩ := k j j (by rw [List.getElem?_range (by omega)])
  rw [hj] at hb
  cases hb
  exact hf
theorem open44 : ∀ (fuel : Nat) (cs : List Value) (d : DataW H) (ps : List MemPlace), rd0 enc w fuel 44 cs = some (d, ps) →
    ∃ (x : S44) (A : Option Addr) (c : Nat), cs = [.bool x.f0, .int .i64 x.f1, .string x.f2, .slice A x.f3.length c] ∧ x.f3.length ≤ c ∧ k44.C w A x.f3.length x.f3 ∧ isz x ≤ Rows.uptoBulk d := by
  intro fuel
  induction fuel using Nat.strongRecOn with
  | _ fuel ih =>
  intro cs d ps h
  cases fuel with
  | zero => simp [rd0, DataW.trod] at h
  | succ n =>
    unfold rd0 DataW.trod at h
    simp only [Try.underlying44, cellsOf44] at h
    split at h
    case isFalse => cases h
    case isTrue hlen =>
    obtain ⟨v0, v1, v2, v3, rfl⟩ : ∃ v0 v1 v2 v3, cs = [v0, v1, v2, v3] := by
      match cs, hlen with
      | [v0, v1, v2, v3], _ => exact ⟨v0, v1, v2, v3, rfl⟩
    simp only [List.mapM_cons, List.mapM_nil, cellsOf4, cellsOf3, cellsOf9, cellsOf42, List.drop, List.take, List.drop_succ_cons, List.drop_zero, List.take_succ_cons, List.take_zero] at h
    simp only [Option.map_eq_some_iff, Option.bind_eq_bind, Option.bind_eq_some_iff, Option.pure_def, Option.some.injEq] at h
    obtain ⟨xs, ⟨x0, h0, _, ⟨x1, h1, _, ⟨x2, h2, _, ⟨x3, h3, _, rfl, rfl⟩, rfl⟩, rfl⟩, rfl⟩, hd⟩ := h
    obtain ⟨b, rfl, e0⟩ := open_b n v0 x0.1 x0.2 h0
    obtain ⟨i, rfl, e1⟩ := open_i n v1 x1.1 x1.2 h1
    obtain ⟨s, rfl, e2⟩ := open_s n v2 x2.1 x2.2 h2
    cases hd
    simp only [List.map_cons, List.map_nil, e0, e1, e2]
    -- the others
    cases n with
    | zero => simp [DataW.trod] at h3
    | succ m =>
      unfold DataW.trod at h3
      simp only [Try.underlying42] at h3
      split at h3
      all_goals first | (exfalso; simp_all; done) | skip
      case h_7 =>
        rename_i hv
        injection hv with hv
        subst hv
        refine ⟨⟨b, i, s, []⟩, none, 0, rfl, Nat.le_refl _, ⟨rfl, by simp, fun hp => absurd hp (by simp)⟩, ?_⟩
        simp only [isz, iszL, Rows.uptoBulk, Rows.uptoBulkAll, Array.length_toList]
        simp only [ByteArray.size]
        omega
      case h_8 =>
        rename_i e a len cap ht hv
        injection hv with hv
        subst hv
        injection ht with ht
        injection ht with ht
        subst ht
        simp only [cellsOf44, if_true] at h3
        split at h3
        case isFalse => cases h3
        case isTrue hb =>
        simp only [Option.map_eq_some_iff, Option.bind_eq_some_iff] at h3
        obtain ⟨elems, he, rest, hr, h3⟩ := h3
        subst h3
        have ihm := ih m (by omega)
        obtain ⟨xs, hx1, hx2, hx3⟩ := rows_of (ad := a) _ (fun i d ps hg => by
          obtain ⟨cs, hc, ht⟩ := Option.bind_eq_some_iff.1 hg
          obtain ⟨x, A, c, rfl, hle, hC, hz⟩ := ihm cs d ps ht
          obtain ⟨_, hcell⟩ := cells_of hc
          exact ⟨x, _, rfl, k44_mk w x hle hC, hz, fun j u hj => by rw [← Addr.add_add]; exact hcell j u hj⟩) len elems he
        have hl : elems.length = len := by simpa using (mapM_getElem _ _ he).1
        have hlx : xs.length = len := by rw [hx1, hl]
        subst hlx
        refine ⟨⟨b, i, s, xs⟩, some a, cap, rfl, hb.2.1, ⟨rfl, by have := hb.2.2; have := hb.2.1; simp only [maxLen] at *; omega, fun _ => ⟨a, rfl, hx3⟩⟩, ?_⟩
        simp only [isz, Rows.uptoBulk, Rows.uptoBulkAll, Array.length_toList]
        simp only [ByteArray.size]
        omega
theorem item44 {v : Value} {d : DataW H} {ps : List MemPlace} (h : DataW.Trod enc Try.prog w 0 (fun _ => true) true 44 v d ps) :
    ∃ (x : S44) (A : Option Addr) (c : Nat), v = .agg #[.bool x.f0, .int .i64 x.f1, .string x.f2, .slice A x.f3.length c] ∧ x.f3.length ≤ c ∧ k44.C w A x.f3.length x.f3 ∧ isz x ≤ Rows.uptoBulk d := by
  obtain ⟨fuel, h⟩ := h
  obtain ⟨x, A, c, he, h1, h2, h3⟩ := open44 fuel _ _ _ h
  refine ⟨x, A, c, ?_, h1, h2, h3⟩
  cases v with
  | agg cs =>
    simp only [Value.cells] at he
    rw [show cs = cs.toList.toArray by simp, he]
  | _ => simp [Value.cells] at he
end Go.Proofs.Ytkgijkfcmbpgpaa.Giv
end
