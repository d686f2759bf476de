/- Joined by wip/pack.py out of: MWire2, MWire3, MWire4, PureWireBytes, MOpen; what nothing here names is left out. -/
import Derived.ArgAppend
import Derived.Below
import Derived.BigQuiet
import Derived.DataElems
import Derived.Deep.AppendLies
import Derived.Deep.CutBlock
import Derived.Deep.DeepCutAuto
import Derived.Deep.Draws
import Derived.Deep.LoopGhost
import Derived.Deep.OwnRows
import Derived.Deep.QuietTactic
import Derived.Deep.RegionHeld3
import Derived.KernelRfl
import Derived.Laws.BitsLemmas
import Derived.Laws.BytesArg
import Derived.Laws.IdiomCopy
import Derived.Laws.MakeOwn
import Derived.Laws.OwnMore
import Derived.Laws.Rows
import Derived.Laws.Slices
import Derived.Laws.StructEq
import Derived.Lib.AppendStr
import Derived.Lib.ConvBytes
import Derived.MapPlaces
import Derived.Maps.AppendAt
import Derived.OrdersHeld
import Derived.OwnWalk
import Derived.RowKit
import Derived.RowKit3
import Derived.Shelf.Strings.Builder1
import Derived.Shelf.Strings.BuilderF
import Derived.Shelf.Strings.BuilderK
import Derived.Tactics
import Derived.WalkKit
import Derived.WideLaws
import Derived.Test.YtkgijkfcmbpgpaaO3b10
import Derived.Test.YtkgijkfcmbpgpaaO3b2
import Derived.Test.YtkgijkfcmbpgpaaO3b4
import Derived.Test.YtkgijkfcmbpgpaaO3b6
import Derived.Test.YtkgijkfcmbpgpaaO3b7
import Derived.Test.YtkgijkfcmbpgpaaO3b9
import Derived.Test.YtkgijkfcmbpgpaaProg
import Derived.Test.YtkgijkfcmbpgpaaRows
section
namespace Go.Proofs.Ytkgijkfcmbpgpaa.Giv
open Go.RowKit Go.Proofs.YtkgijkfcmbpgpaaW.PrintWords Go.Proofs.YtkgijkfcmbpgpaaW.PrintLast Go.Proofs.YtkgijkfcmbpgpaaW.PrintMore Go.Proofs.Ytkgijkfcmbpgpaa.PWir
set_option linter.unusedVariables false
set_option linter.unusedSimpArgs false
theorem baL_list (l : List UInt8) : (baL l).data.toList = l := by simp [baL]
theorem baL_size (l : List UInt8) : (baL l).size = l.length := by simp [baL, ByteArray.size]
theorem baL_toList (l : List UInt8) : (baL l).toList = l := by rw [ba_toList, baL_list]
theorem baL_of (s : ByteArray) : s = baL s.data.toList := ba_ext2 (by rw [baL_list])
theorem baL_app (l m : List UInt8) : baL l ++ baL m = baL (l ++ m) := by
  apply ba_ext2
  rw [ByteArray.data_append, Array.toList_append, baL_list, baL_list, baL_list]
theorem baL_ext (l : List UInt8) (i j : Nat) : (baL l).extract i j = baL ((l.take j).drop i) := by
  apply ba_ext2
  rw [baL_list, ByteArray.data_extract]
  show ((l.toArray).extract i j).toList = _
  rw [Array.toList_extract, List.extract_eq_take_drop, List.toList_toArray, List.drop_take]
theorem bt_baL (l : List UInt8) (i : Nat) : bt (baL l) (i : Int) = ((l.getD i 0).toNat : Int) := by
  unfold bt
  by_cases h : i < l.length
  · have h' : (i : Int).toNat < (baL l).size := by rw [baL_size]; simpa using h
    rw [dif_pos h']
    simp only [Int.toNat_natCast]
    have e : (baL l)[i]'(by rw [baL_size]; exact h) = l[i] := by
      have e1 : (baL l).data.toList[i]'(by rw [baL_list]; exact h) = l[i] := List.getElem_of_eq (baL_list l) _
      rw [← e1]
      rfl
    rw [e, List.getD_eq_getElem?_getD, List.getElem?_eq_getElem h]
    rfl
  · rw [dif_neg (by rw [baL_size]; simpa using h)]
    simp [List.getD_eq_getElem?_getD, h]
theorem toNat_of (n : Nat) (h : n < 256) : (UInt8.ofNat n).toNat = n := by
  simp [UInt8.toNat_ofNat_of_lt' (show n < UInt8.size from h)]
theorem numGo_cons (c : UInt8) (r : List UInt8) (n i : Nat) : numGo (c :: r) n i = if n * 128 + c.toNat % 128 > 65536 then (0, 0, 11) else if c.toNat ≥ 128 then numGo r (n * 128 + c.toNat % 128) (i + 1) else (n * 128 + c.toNat % 128, i + 1, 0) := by rw [numGo]
/-- What is written as_ a length is read again. -/
theorem numS_len (t : UInt8) (n : Nat) (rest : List UInt8) (h : n < 16384) : numS (t :: (lenL n ++ rest)) = (n, 1 + (lenL n).length, 0) := by
  unfold lenL numS
  by_cases h1 : n < 128
  · have e := toNat_of n (by omega)
    have hne : ¬ UInt8.ofNat n = 128 := fun q => by have := congrArg UInt8.toNat q; rw [e] at this; have h128 : (128 : UInt8).toNat = 128 := rfl; omega
    rw [if_pos h1, if_neg (by simp [hne]), List.drop_one, List.tail_cons, List.singleton_append, numGo_cons, e, if_neg (by omega), if_neg (by omega)]
    simp
    omega
  · have e := toNat_of (128 + n / 128) (by omega)
    have e2 := toNat_of (n % 128) (by omega)
    have hne : ¬ UInt8.ofNat (128 + n / 128) = 128 := fun q => by have := congrArg UInt8.toNat q; rw [e] at this; have h128 : (128 : UInt8).toNat = 128 := rfl; omega
    rw [if_neg h1, if_neg (fun q => hne q.2), List.drop_one, List.tail_cons, List.cons_append, List.singleton_append, numGo_cons, e, if_neg (by omega), if_pos (by omega), numGo_cons, e2, if_neg (by omega), if_neg (by omega)]
    simp
    omega
theorem numGo_ge : ∀ (l : List UInt8) (n i m j : Nat), numGo l n i = (m, j, 0) → n * 128 ≤ m ∧ i + 1 ≤ j ∧ j ≤ i + l.length
  | [], n, i, m, j, h => by rw [numGo] at h; simp at h
  | c :: r, n, i, m, j, h => by
    rw [numGo_cons] at h
    split at h
    · simp at h
    · split at h
      · have h5 := numGo_ge r _ _ _ _ h
        simp only [List.length_cons]
        have h6 : n ≤ n * 128 + c.toNat % 128 := by omega
        refine ⟨Nat.le_trans (Nat.le_trans (by omega) (Nat.mul_le_mul_right 128 (show n ≤ n * 128 + c.toNat % 128 from h6))) h5.1, by omega, by omega⟩
      · simp only [Prod.mk.injEq] at h
        simp only [List.length_cons]
        omega
theorem numGo_err : ∀ (l : List UInt8) (n i : Nat), (numGo l n i).1 ≤ 65536 ∧ (numGo l n i).2.1 ≤ i + l.length ∧ ((numGo l n i).2.2 = 0 ∨ (numGo l n i).2.2 = 10 ∨ (numGo l n i).2.2 = 11)
  | [], n, i => by rw [numGo]; simp
  | c :: r, n, i => by
    rw [numGo_cons]
    split
    · simp
    · split
      · have := numGo_err r (n * 128 + c.toNat % 128) (i + 1)
        simp only [List.length_cons]
        omega
      · exact ⟨by show n * 128 + c.toNat % 128 ≤ 65536; omega, by show i + 1 ≤ i + (c :: r).length; simp, .inl rfl⟩
/-- What is read as_ a length is written so. -/
theorem numS_back (l : List UInt8) (n i : Nat) (h : numS l = (n, i, 0)) (hn : n < 16384) : ∃ t rest, l = t :: (lenL n ++ rest) ∧ i = 1 + (lenL n).length := by
  unfold numS at h
  split at h
  · simp at h
  · rename_i h0
    match l, h0, h with
    | [], _, h => simp [numGo] at h
    | [t], _, h => simp [numGo] at h
    | t :: c :: r, h0, h =>
      have hc : c ≠ 128 := fun q => h0 (by simp [q])
      have hcn : c.toNat ≠ 128 := fun q => hc (UInt8.toNat_inj.1 q)
      have hcl := c.toNat_lt
      rw [List.drop_one, List.tail_cons, numGo_cons, if_neg (by omega)] at h
      split at h
      · rename_i h1
        match r, h with
        | [], h => simp [numGo] at h
        | d :: r2, h =>
          have hdl := d.toNat_lt
          rw [numGo_cons, if_neg (by omega)] at h
          split at h
          · have := numGo_ge _ _ _ _ _ h
            omega
          · rename_i h2
            simp only [Prod.mk.injEq] at h
            obtain ⟨hn2, hi, _⟩ := h
            refine ⟨t, r2, ?_, ?_⟩
            · unfold lenL
              rw [if_neg (by omega)]
              have e1 : UInt8.ofNat (128 + n / 128) = c := UInt8.toNat_inj.1 (by rw [toNat_of _ (by omega)]; omega)
              have e2 : UInt8.ofNat (n % 128) = d := UInt8.toNat_inj.1 (by rw [toNat_of _ (by omega)]; omega)
              rw [e1, e2]
              rfl
            · unfold lenL
              rw [if_neg (by omega)]
              simp
              omega
      · rename_i h1
        simp only [Prod.mk.injEq] at h
        obtain ⟨hn2, hi, _⟩ := h
        refine ⟨t, r, ?_, ?_⟩
        · unfold lenL
          rw [if_pos (by omega)]
          have e1 : UInt8.ofNat n = c := UInt8.toNat_inj.1 (by rw [toNat_of _ (by omega)]; omega)
          rw [e1]
          rfl
        · unfold lenL
          rw [if_pos (by omega)]
          simp
          omega
theorem number_some (l : List UInt8) (h : l.length ≤ 1000000) : wire_number.f (baL l) = some (((numS l).1 : Int), ((numS l).2.1 : Int), ((numS l).2.2 : Int)) := by
  unfold wire_number.f
  rw [if_pos (by rw [baL_size]; omega), baL_list]
theorem numS_err (l : List UInt8) : (numS l).1 ≤ 65536 ∧ (numS l).2.1 ≤ 1 + l.length ∧ ((numS l).2.2 = 0 ∨ (numS l).2.2 = 10 ∨ (numS l).2.2 = 11 ∨ (numS l).2.2 = 13) := by
  unfold numS
  split
  · simp
  · have := numGo_err (l.drop 1) 0 1
    rw [List.length_drop] at this
    omega
/-- A head, as_ it is read. -/
def hdV (l : List UInt8) (d a : Nat) : Bool × Int × ByteArray × List S44 × Int × Int × Int :=
  if 32 < d then (false, 0, ⟨#[]⟩, [], 0, 0, 12) else if l = [] then (false, 0, ⟨#[]⟩, [], 0, 0, 10) else if (l.getD 0 0).toNat % 128 = 0 then (false, 0, ⟨#[]⟩, [], 0, 0, 13)
  else if (numS l).2.2 ≠ 0 then (false, 0, ⟨#[]⟩, [], 0, 0, ((numS l).2.2 : Int)) else if 65536 < a + (numS l).2.1 + (numS l).1 then (false, 0, ⟨#[]⟩, [], 0, 0, 11)
  else if l.length < (numS l).2.1 + (numS l).1 then (if 0 < d then (false, 0, ⟨#[]⟩, [], 0, 0, 13) else (false, 0, ⟨#[]⟩, [], 0, 0, 10))
  else (decide (128 ≤ (l.getD 0 0).toNat), (((l.getD 0 0).toNat % 128 : Nat) : Int), ⟨#[]⟩, [], ((numS l).2.1 : Int), (((numS l).2.1 + (numS l).1 : Nat) : Int), 0)
theorem head_some (l : List UInt8) (d a k : Nat) (hl : l.length ≤ 1000000) (ha : a ≤ 1000000) (hk : 1 ≤ k) : wire_reader_head.f k (d : Int) (a : Int) (baL l) = some (hdV l d a) := by
  obtain ⟨k, rfl⟩ : ∃ j, k = j + 1 := ⟨k - 1, by omega⟩
  have hz := baL_size l
  have hb : bt (baL l) 0 = ((l.getD 0 0).toNat : Int) := bt_baL l 0
  have hbl := (l.getD 0 0).toNat_lt
  have hne := numS_err l
  have hno := number_some l hl
  unfold wire_reader_head.f hdV
  obtain ⟨c, hc⟩ : ∃ c, c = (l.getD 0 0).toNat := ⟨_, rfl⟩
  rw [hb, hno, ← hc, baL_toList, Option.bind_some]
  rw [← hc] at hbl
  have hb' : bt (baL l) 0 = (c : Int) := by rw [hb, hc]
  clear hno hb hc
  obtain ⟨⟨n, i, e⟩, hq⟩ : ∃ q, q = numS l := ⟨_, rfl⟩
  rw [← hq] at hne ⊢
  clear hq
  simp only at hne ⊢
  by_cases h1 : 32 < d
  · rw [if_pos (by omega), if_pos h1]
  rw [if_neg (by omega), if_neg h1]
  by_cases h2 : l = []
  · rw [if_pos h2, if_pos h2]
  have hpos : 0 < l.length := List.length_pos_iff.2 h2
  have ht : Int.tmod (c : Int) 128 = ((c % 128 : Nat) : Int) := by rw [Int.tmod_eq_emod_of_nonneg (by omega)]; omega
  rw [if_neg h2, if_neg h2, if_pos (by omega), ht]
  by_cases h3 : c % 128 = 0
  · rw [if_pos (by omega), if_pos h3]
  rw [if_neg (by omega), if_neg h3]
  by_cases h4 : e = 0
  · subst h4
    have w1 : wrap64 (wrap64 ((a : Int) + (i : Int)) + (n : Int)) = ((a + i + n : Nat) : Int) := by
      rw [show wrap64 ((a : Int) + (i : Int)) = ((a + i : Nat) : Int) from by unfold wrap64; omega]; unfold wrap64; omega
    have w2 : wrap64 (((baL l).size : Int) - (i : Int)) = (l.length : Int) - (i : Int) := by rw [hz]; unfold wrap64; omega
    have w3 : wrap64 ((i : Int) + (n : Int)) = ((i + n : Nat) : Int) := by unfold wrap64; omega
    have w4 : wrap64 ((c % 128 : Nat) : Int) = ((c % 128 : Nat) : Int) := by unfold wrap64; omega
    have hR : ¬ ((0 : Nat) ≠ 0) := by simp
    rw [if_pos (by rfl), if_neg hR, w1, w2]
    have W2 := Aside0.mk w2
    have W3 := Aside0.mk w3
    have W4 := Aside0.mk w4
    clear w1 w2 w3 w4 hz
    by_cases h5 : 65536 < a + i + n
    · rw [if_pos (by omega), if_pos h5]
    rw [if_neg (by omega), if_neg h5]
    by_cases h6 : l.length < i + n
    · rw [if_pos (by omega), if_pos h6]
      by_cases h7 : 0 < d
      · rw [decide_eq_true (by omega), if_pos h7, wire_reader_head.j0, if_pos rfl]
      · rw [decide_eq_false (by omega), if_neg h7, wire_reader_head.j0, if_neg (by simp), W2.out, if_pos (by omega)]
    · have hps : (0 : Int) < ((baL l).size : Int) := by rw [baL_size]; omega
      rw [if_neg (by omega), if_neg h6, wire_reader_head.j0, if_neg (by simp), W2.out, if_neg (by omega), if_pos hps, hb', ht, W4.out, W3.out]
      congr 2
      exact decide_eq_decide.2 (by omega)
  · rw [if_neg (by omega), if_pos h4]
end Go.Proofs.Ytkgijkfcmbpgpaa.Giv
end

section
namespace Go.Proofs.Ytkgijkfcmbpgpaa.Giv
open Go.RowKit Go.Proofs.YtkgijkfcmbpgpaaW.PrintWords Go.Proofs.YtkgijkfcmbpgpaaW.PrintLast Go.Proofs.YtkgijkfcmbpgpaaW.PrintMore Go.Proofs.Ytkgijkfcmbpgpaa.PWir
set_option linter.unusedVariables false
set_option linter.unusedSimpArgs false
theorem hd_ok (l : List UInt8) (d a : Nat) (h : (hdV l d a).2.2.2.2.2.2 = 0) : ∃ n i, numS l = (n, i, 0) ∧ d ≤ 32 ∧ l ≠ [] ∧ (l.getD 0 0).toNat % 128 ≠ 0 ∧ a + i + n ≤ 65536 ∧ i + n ≤ l.length ∧
    hdV l d a = (decide (128 ≤ (l.getD 0 0).toNat), (((l.getD 0 0).toNat % 128 : Nat) : Int), ⟨#[]⟩, [], (i : Int), ((i + n : Nat) : Int), 0) := by
  unfold hdV at h ⊢
  by_cases h1 : 32 < d
  · rw [if_pos h1] at h; simp at h
  rw [if_neg h1] at h ⊢
  by_cases h2 : l = []
  · rw [if_pos h2] at h; simp at h
  rw [if_neg h2] at h ⊢
  by_cases h3 : (l.getD 0 0).toNat % 128 = 0
  · rw [if_pos h3] at h; simp at h
  rw [if_neg h3] at h ⊢
  by_cases h4 : (numS l).2.2 = 0
  · have h4' : ¬ (numS l).2.2 ≠ 0 := by simpa using h4
    rw [if_neg h4'] at h ⊢
    by_cases h5 : 65536 < a + (numS l).2.1 + (numS l).1
    · rw [if_pos h5] at h; simp at h
    rw [if_neg h5] at h ⊢
    by_cases h6 : l.length < (numS l).2.1 + (numS l).1
    · rw [if_pos h6] at h; split at h <;> simp at h
    rw [if_neg h6]
    exact ⟨(numS l).1, (numS l).2.1, by rw [← h4], by omega, h2, h3, by omega, by omega, rfl⟩
  · rw [if_pos h4] at h
    simp only at h
    omega
theorem tag_back (t : UInt8) (h : t.toNat % 128 ≠ 0) : tagB (decide (128 ≤ t.toNat)) ((t.toNat % 128 : Nat) : Int) = t := by
  have hl := t.toNat_lt
  apply UInt8.toNat_inj.1
  unfold tagB
  by_cases h1 : 128 ≤ t.toNat
  · rw [decide_eq_true h1, if_pos rfl, toNat_of _ (by omega)]; omega
  · rw [decide_eq_false h1, if_neg (by simp), toNat_of _ (by omega)]; omega
theorem shpL_app : ∀ (l m : List S44) (d : Nat), shpL (l ++ m) d = (shpL l d && shpL m d)
  | [], m, d => by rw [shpL]; simp
  | x :: l, m, d => by rw [List.cons_append, shpL, shpL, shpL_app l m d, Bool.and_assoc]
/-- What a text begins with. -/
def OkAt (l : List UInt8) (d a : Nat) (x : S44) (m : Nat) : Prop := ∃ rest, l = wr x ++ rest ∧ m = (wr x).length ∧ shp x d = true ∧ a + m ≤ 65536
def FirstS (k : Nat) : Prop := ∀ (l : List UInt8) (d a : Nat) (n : Bool) (t : Int) (s : ByteArray) (xs : List S44) (m : Int), l.length ≤ 16000 → a ≤ 70000 →
  wire_reader_first.f k (d : Int) (a : Int) (baL l) = some (n, t, s, xs, m, 0) → ∃ mm : Nat, m = (mm : Int) ∧ OkAt l d a ⟨n, t, s, xs⟩ mm
def LoopS (k : Nat) : Prop := ∀ (l : List UInt8) (tt i d a : Nat) (t : Int) (acc : List S44) (n' : Bool) (t' : Int) (s' : ByteArray) (xs : List S44) (m : Int), l.length ≤ 16000 → tt ≤ l.length → i ≤ tt → a + tt ≤ 65536 → d ≤ 32 → shpL acc (d + 1) = true →
  wire_reader_first.l0 k (baL l) (tt : Int) (i : Int) (d : Int) (a : Int) true t ⟨#[]⟩ acc = some (n', t', s', xs, m, 0) → n' = true ∧ t' = t ∧ s' = ⟨#[]⟩ ∧ m = (tt : Int) ∧ shpL xs (d + 1) = true ∧ ∃ ys, xs = acc ++ ys ∧ wrL ys = (l.take tt).drop i
theorem sub_len (l : List UInt8) (tt i : Nat) (h : tt ≤ l.length) : ((l.take tt).drop i).length = tt - i := by simp; omega
theorem loop_sound (k : Nat) (hf : FirstS k) (hl0 : LoopS k) : LoopS (k + 1) := by
  intro l tt i d a t acc n' t' s' xs m hl hto hi ha hd hacc h
  have hz := baL_size l
  rw [wire_reader_first.l0] at h
  by_cases h1 : i < tt
  · have w1 : wrap64 ((d : Int) + 1) = ((d + 1 : Nat) : Int) := by unfold wrap64; omega
    have w2 : wrap64 ((a : Int) + (i : Int)) = ((a + i : Nat) : Int) := by unfold wrap64; omega
    rw [if_pos (by omega), if_pos (by omega), if_pos (by omega), if_pos (by omega), w1, w2, Int.toNat_natCast, Int.toNat_natCast, baL_ext] at h
    clear w1 w2
    obtain ⟨⟨b1, b2, b3, b4, b5, b6⟩, hc, h⟩ := Option.bind_eq_some_iff.1 h
    simp only at h
    by_cases h2 : b6 = 0
    · subst h2
      rw [if_pos rfl] at h
      have hsl := sub_len l tt i hto
      obtain ⟨mm, rfl, rest, e1, e2, e3, e4⟩ := hf ((l.take tt).drop i) (d + 1) (a + i) b1 b2 b3 b4 b5 (by omega) (by omega) hc
      rw [e1, List.length_append] at hsl
      by_cases h3 : acc.length < 2513169434916
      · have w3 : wrap64 ((i : Int) + (mm : Int)) = ((i + mm : Nat) : Int) := by unfold wrap64; omega
        rw [if_pos h3, w3] at h
        clear w3
        obtain ⟨q1, q2, q3, q4, q5, ys, q6, q7⟩ := hl0 l tt (i + mm) d a t (acc ++ [⟨b1, b2, b3, b4⟩]) n' t' s' xs m hl hto (by omega) ha hd (by rw [shpL_app, hacc, shpL, e3, shpL]; rfl) h
        refine ⟨q1, q2, q3, q4, q5, ⟨b1, b2, b3, b4⟩ :: ys, by rw [q6]; simp, ?_⟩
        rw [wrL, q7, ← List.drop_drop, e1, e2, List.drop_left]
      · rw [if_neg h3] at h
        exact absurd h (by simp)
    · rw [if_neg h2] at h
      by_cases h3 : b6 = 10
      · rw [if_pos h3] at h; simp at h
      · rw [if_neg h3] at h
        simp only [Option.some.injEq, Prod.mk.injEq] at h
        exact absurd h.2.2.2.2.2 h2
  · rw [if_neg (by omega)] at h
    simp only [Option.some.injEq, Prod.mk.injEq] at h
    obtain ⟨rfl, rfl, rfl, rfl, rfl, _⟩ := h
    refine ⟨rfl, rfl, rfl, rfl, hacc, [], by simp, ?_⟩
    rw [wrL, List.drop_eq_nil_of_le (by simp; omega)]
theorem first_step (k : Nat) (hl0 : LoopS k) (hk : 1 ≤ k) : FirstS (k + 1) := by
  intro l d a n t s xs m hl ha h
  rw [wire_reader_first.f, head_some l d a k (by omega) (by omega) hk, Option.bind_some] at h
  by_cases h0 : (hdV l d a).2.2.2.2.2.2 = 0
  · obtain ⟨N, i, e1, e2, e3, e4, e5, e6, e7⟩ := hd_ok l d a h0
    rw [e7] at h
    simp only at h
    rw [if_pos trivial] at h
    obtain ⟨t0, rest, r1, r2⟩ := numS_back l N i e1 (by omega)
    have hg : l.getD 0 0 = t0 := by rw [r1]; rfl
    rw [hg] at h e4
    have htl := t0.toNat_lt
    have htb := tag_back t0 e4
    have hln := lenL_len N
    have hlr : N ≤ rest.length := by rw [r1] at e6; simp at e6; omega
    have hbody : (l.take (i + N)).drop i = rest.take N := by
      rw [List.drop_take, r1, r2]
      have : (t0 :: (lenL N ++ rest)).drop (1 + (lenL N).length) = rest := by rw [Nat.add_comm, List.drop_succ_cons, List.drop_left]
      rw [this]
      congr 1
      omega
    have hbl : (rest.take N).length = N := by simp; omega
    have hwhole : l = t0 :: (lenL N ++ rest.take N) ++ rest.drop N := by rw [r1]; simp
    by_cases h1 : 128 ≤ t0.toNat
    · rw [decide_eq_true h1] at h htb
      simp only [if_true] at h
      obtain ⟨rfl, rfl, rfl, rfl, q5, ys, q6, q7⟩ := hl0 l (i + N) i d a _ [] n t s xs m hl e6 (by omega) (by omega) e2 (by rw [shpL]) h
      rw [List.nil_append] at q6
      subst q6
      rw [hbody] at q7
      have hwr : wr ⟨true, ((t0.toNat % 128 : Nat) : Int), ⟨#[]⟩, xs⟩ = t0 :: (lenL N ++ rest.take N) := by rw [wr, if_pos rfl, q7, hbl, htb]
      refine ⟨i + N, rfl, rest.drop N, by rw [hwr]; exact hwhole, by rw [hwr, List.length_cons, List.length_append, hbl]; omega, ?_, by omega⟩
      rw [shp, q5, decide_eq_true e2, decide_eq_true (show (1 : Int) ≤ ((t0.toNat % 128 : Nat) : Int) by omega), decide_eq_true (show ((t0.toNat % 128 : Nat) : Int) ≤ 127 by omega), if_pos rfl]
      rfl
    · rw [decide_eq_false h1] at h htb
      rw [if_neg (by simp), if_pos (by omega), if_pos (by omega), if_pos (by rw [baL_size]; omega), Int.toNat_natCast, Int.toNat_natCast, baL_ext, hbody] at h
      simp only [Option.some.injEq, Prod.mk.injEq] at h
      obtain ⟨rfl, rfl, rfl, rfl, rfl, _⟩ := h
      have hwr : wr ⟨false, ((t0.toNat % 128 : Nat) : Int), baL (rest.take N), []⟩ = t0 :: (lenL N ++ rest.take N) := by rw [wr, if_neg (by simp), baL_list, hbl, htb]
      refine ⟨i + N, rfl, rest.drop N, by rw [hwr]; exact hwhole, by rw [hwr, List.length_cons, List.length_append, hbl]; omega, ?_, by omega⟩
      rw [shp, shpL, decide_eq_true e2, decide_eq_true (show (1 : Int) ≤ ((t0.toNat % 128 : Nat) : Int) by omega), decide_eq_true (show ((t0.toNat % 128 : Nat) : Int) ≤ 127 by omega), if_neg (by simp)]
      rfl
  · rw [if_neg h0] at h
    simp only [Option.some.injEq, Prod.mk.injEq] at h
    exact absurd h.2.2.2.2.2 h0
theorem head_zero (d a : Int) (s : ByteArray) (b : Bool × Int × ByteArray × List S44 × Int × Int × Int) (h : wire_reader_head.f 0 d a s = some b) : ¬ b.2.2.2.2.2.2 = 0 := by
  unfold wire_reader_head.f at h
  split at h
  · cases h; simp
  split at h
  · cases h; simp
  split at h
  · split at h
    · cases h; simp
    · obtain ⟨q, _, h⟩ := Option.bind_eq_some_iff.1 h
      split at h
      · split at h
        · cases h; simp
        · split at h <;> (rw [wire_reader_head.j0] at h; cases h)
      · rename_i hne
        cases h
        exact hne
  · cases h
theorem sound_all : ∀ k, FirstS k ∧ LoopS k := by
  intro k
  induction k with
  | zero =>
    constructor
    · intro l d a n t s xs m _ _ h; rw [wire_reader_first.f] at h; exact absurd h (by simp)
    · intro l tt i d a t acc n' t' s' xs m _ _ _ _ _ _ h; rw [wire_reader_first.l0] at h; exact absurd h (by simp)
  | succ k ih =>
    refine ⟨?_, loop_sound k ih.1 ih.2⟩
    by_cases hk : 1 ≤ k
    · exact first_step k ih.2 hk
    · obtain rfl : k = 0 := by omega
      intro l d a n t s xs m hl ha h
      rw [wire_reader_first.f] at h
      obtain ⟨b, hb, h⟩ := Option.bind_eq_some_iff.1 h
      have hne := head_zero (d : Int) (a : Int) (baL l) b hb
      rw [if_neg hne] at h
      simp only [Option.some.injEq, Prod.mk.injEq] at h
      exact absurd h.2.2.2.2.2 hne
theorem first_sound (k : Nat) : FirstS k := (sound_all k).1
/-- The reader always ends. -/
theorem loop_total (l : List UInt8) (hl : l.length ≤ 16000) (tt : Nat) (htt : tt ≤ l.length) (ih : ∀ (m : List UInt8), m.length ≤ tt → m.length + 2 ≤ l.length → ∀ (d a k : Nat), d ≤ 33 → a ≤ 70000 → 2 * m.length + 5 ≤ k → ∃ r, wire_reader_first.f k (d : Int) (a : Int) (baL m) = some r) :
    ∀ (rem i d a k : Nat) (t : Int) (acc : List S44), i + rem = tt → 2 ≤ i → d ≤ 32 → a + tt ≤ 65536 → 2 * rem + 6 ≤ k → acc.length ≤ i → ∃ r, wire_reader_first.l0 k (baL l) (tt : Int) (i : Int) (d : Int) (a : Int) true t ⟨#[]⟩ acc = some r := by
  intro rem
  induction rem using Nat.strongRecOn with
  | _ rem ihr =>
    intro i d a k t acc hi h2 hd ha hk hacc
    obtain ⟨k, rfl⟩ : ∃ j, k = j + 1 := ⟨k - 1, by omega⟩
    have hz := baL_size l
    rw [wire_reader_first.l0]
    by_cases h1 : i < tt
    · have g1 : (i : Int) < (tt : Int) := by omega
      have g2 : (0 : Int) ≤ (i : Int) := by omega
      have g3 : (i : Int) ≤ (tt : Int) := by omega
      have g4 : (tt : Int) ≤ ((baL l).size : Int) := by omega
      have w1 : wrap64 ((d : Int) + 1) = ((d + 1 : Nat) : Int) := by unfold wrap64; omega
      have W1 := Aside0.mk w1
      clear w1
      have w2 : wrap64 ((a : Int) + (i : Int)) = ((a + i : Nat) : Int) := by unfold wrap64; omega
      have w1 := W1.out
      rw [if_pos g1, if_pos g2, if_pos g3, if_pos g4, w1, w2, Int.toNat_natCast, Int.toNat_natCast, baL_ext]
      clear w1 w2
      have hsl := sub_len l tt i htt
      obtain ⟨⟨b1, b2, b3, b4, b5, b6⟩, hb⟩ := ih ((l.take tt).drop i) (by omega) (by omega) (d + 1) (a + i) k (by omega) (by omega) (by omega)
      rw [hb, Option.bind_some]
      simp only
      by_cases h3 : b6 = 0
      · subst h3
        obtain ⟨mm, rfl, rest, e1, e2, e3, e4⟩ := first_sound k ((l.take tt).drop i) (d + 1) (a + i) b1 b2 b3 b4 b5 (by omega) (by omega) hb
        have hw := wr_two ⟨b1, b2, b3, b4⟩
        rw [e1, List.length_append, ← e2] at hsl
        rw [← e2] at hw
        clear e1 e2 hb
        have hacc2 : acc.length < 2513169434916 := by omega
        have w3 : wrap64 ((i : Int) + (mm : Int)) = ((i + mm : Nat) : Int) := by unfold wrap64; omega
        have W3 := Aside0.mk w3
        clear w3
        rw [if_pos rfl, if_pos hacc2, W3.out]
        exact ihr (rem - mm) (by omega) (i + mm) d a k t _ (by omega) (by omega) hd ha (by omega) (by simp; omega)
      · rw [if_neg h3]
        split
        · exact ⟨_, rfl⟩
        · exact ⟨_, rfl⟩
    · rw [if_neg (by omega)]
      exact ⟨_, rfl⟩
theorem first_total : ∀ (N : Nat) (l : List UInt8), l.length ≤ N → N ≤ 16000 → ∀ (d a k : Nat), d ≤ 33 → a ≤ 70000 → 2 * l.length + 5 ≤ k → ∃ r, wire_reader_first.f k (d : Int) (a : Int) (baL l) = some r := by
  intro N
  induction N using Nat.strongRecOn with
  | _ N ih =>
    intro l hl hN d a k hd ha hk
    obtain ⟨k, rfl⟩ : ∃ j, k = j + 1 := ⟨k - 1, by omega⟩
    rw [wire_reader_first.f, head_some l d a k (by omega) (by omega) (by omega), Option.bind_some]
    by_cases h0 : (hdV l d a).2.2.2.2.2.2 = 0
    · obtain ⟨n, i, e1, e2, e3, e4, e5, e6, e7⟩ := hd_ok l d a h0
      rw [e7]
      simp only
      obtain ⟨t0, rest, r1, r2⟩ := numS_back l n i e1 (by omega)
      have hln := lenL_len n
      rw [if_pos trivial]
      by_cases h1 : 128 ≤ (l.getD 0 0).toNat
      · rw [decide_eq_true h1]
        simp only [if_true]
        exact loop_total l (by omega) (i + n) e6 (fun m hm hm2 d' a' k' hd' ha' hk' => ih m.length (by omega) m (Nat.le_refl _) (by omega) d' a' k' hd' ha' hk') n i d a k _ [] rfl (by omega) e2 (by omega) (by omega) (by simp)
      · rw [decide_eq_false h1, if_neg (by simp), if_pos (by omega), if_pos (by omega), if_pos (by rw [baL_size]; omega)]
        exact ⟨_, rfl⟩
    · rw [if_neg h0]
      exact ⟨_, rfl⟩
/-- What is written is read. -/
theorem hd_wr (x : S44) (d a : Nat) (rest : List UInt8) (hs : shp x d = true) (hz : isz x ≤ 3000) (ha : a + (wr x).length ≤ 65536) :
    hdV (wr x ++ rest) d a = (x.f0, x.f1, (⟨#[]⟩ : ByteArray), ([] : List S44), (((wr x).length - (if x.f0 then (wrL x.f3).length else x.f2.data.toList.length) : Nat) : Int), ((wr x).length : Int), (0 : Int)) := by
  have ht := shp_tag x d hs
  have hw := wr_len x
  have hd : d ≤ 32 := by
    rw [shp_eq] at hs
    simp only [Bool.and_eq_true, decide_eq_true_eq] at hs
    exact hs.1.1.1.1
  obtain ⟨body, hb⟩ : ∃ body, body = if x.f0 then wrL x.f3 else x.f2.data.toList := ⟨_, rfl⟩
  have e0 : wr x = tagB x.f0 x.f1 :: (lenL body.length ++ body) := by rw [wr_eq, hb]; split <;> rfl
  have eb : (if x.f0 then (wrL x.f3).length else x.f2.data.toList.length) = body.length := by rw [hb]; split <;> rfl
  have hln := lenL_len body.length
  have hlw : (wr x).length = 1 + (lenL body.length).length + body.length := by rw [e0]; simp; omega
  rw [eb]
  have hnum : numS (wr x ++ rest) = (body.length, 1 + (lenL body.length).length, 0) := by
    rw [e0, List.cons_append, List.append_assoc]
    exact numS_len _ _ _ (by omega)
  have hg : (wr x ++ rest).getD 0 0 = tagB x.f0 x.f1 := by rw [e0]; rfl
  have htn : (tagB x.f0 x.f1).toNat = x.f1.toNat + if x.f0 then 128 else 0 := by
    unfold tagB
    rw [toNat_of]
    split <;> omega
  have hmod : ¬ (x.f1.toNat + if x.f0 then 128 else 0) % 128 = 0 := by cases x.f0 <;> simp <;> omega
  unfold hdV
  rw [hnum, hg, htn]
  have hlen : (wr x ++ rest).length = (wr x).length + rest.length := by simp
  rw [if_neg (by omega), if_neg (by intro q; have := congrArg List.length q; rw [hlen, List.length_nil] at this; omega), if_neg hmod, if_neg (by simp), if_neg (by simp only; omega), if_neg (by simp only; omega)]
  simp only
  have h1 : (wr x).length - body.length = 1 + (lenL body.length).length := by omega
  have h2 : 1 + (lenL body.length).length + body.length = (wr x).length := by omega
  rw [h1, h2]
  cases hx : x.f0 with
  | true =>
    simp only [if_true]
    rw [decide_eq_true (by omega)]
    congr 2
    omega
  | false =>
    simp only [Bool.false_eq_true, if_false]
    rw [decide_eq_false (by omega)]
    congr 2
    omega
def FirstC (x : S44) : Prop := ∀ (d a k : Nat) (rest : List UInt8), shp x d = true → a + (wr x).length ≤ 65536 → rest.length ≤ 900000 → 8 * isz x ≤ k → wire_reader_first.f k (d : Int) (a : Int) (baL (wr x ++ rest)) = some (x.f0, x.f1, x.f2, x.f3, ((wr x).length : Int), 0)
theorem loop_comp (l : List UInt8) (tt d a : Nat) (hl : l.length ≤ 1000000) (htt : tt ≤ l.length) (hd : d ≤ 32) (ha : a + tt ≤ 65536) (t : Int) : ∀ (ys : List S44) (i k : Nat) (acc : List S44), (∀ y ∈ ys, FirstC y) → shpL ys (d + 1) = true → (l.take tt).drop i = wrL ys → i ≤ tt → acc.length + ys.length ≤ 100000 → 8 * iszL ys + 1 ≤ k →
    wire_reader_first.l0 k (baL l) (tt : Int) (i : Int) (d : Int) (a : Int) true t ⟨#[]⟩ acc = some (true, t, ⟨#[]⟩, acc ++ ys, (tt : Int), 0) := by
  intro ys
  induction ys with
  | nil =>
    intro i k acc _ _ hw hi _ hk
    obtain ⟨k, rfl⟩ : ∃ j, k = j + 1 := ⟨k - 1, by omega⟩
    have hsl := sub_len l tt i htt
    rw [hw, wrL] at hsl
    simp at hsl
    rw [wire_reader_first.l0, if_neg (by omega), List.append_nil]
  | cons y ys ih =>
    intro i k acc hy hs hw hi hacc hk
    obtain ⟨k, rfl⟩ : ∃ j, k = j + 1 := ⟨k - 1, by omega⟩
    have hsl := sub_len l tt i htt
    rw [iszL] at hk
    rw [shpL] at hs
    simp only [Bool.and_eq_true] at hs
    rw [wrL] at hw
    have hwl := wr_two y
    have hp := isz_pos y
    rw [hw, List.length_append] at hsl
    have hz := baL_size l
    have w1 : wrap64 ((d : Int) + 1) = ((d + 1 : Nat) : Int) := by unfold wrap64; omega
    have w2 : wrap64 ((a : Int) + (i : Int)) = ((a + i : Nat) : Int) := by unfold wrap64; omega
    have w3 : wrap64 ((i : Int) + ((wr y).length : Int)) = ((i + (wr y).length : Nat) : Int) := by unfold wrap64; omega
    have W3 := Aside0.mk w3
    clear w3
    simp only [List.length_cons] at hacc
    rw [wire_reader_first.l0, if_pos (by omega), if_pos (by omega), if_pos (by omega), if_pos (by omega), w1, w2, Int.toNat_natCast, Int.toNat_natCast, baL_ext, hw]
    clear w1 w2
    rw [hy y (by simp) (d + 1) (a + i) k (wrL ys) hs.1 (by omega) (by omega) (by omega), Option.bind_some]
    simp only
    rw [if_pos trivial, if_pos (by omega), W3.out, ih (i + (wr y).length) k _ (fun z hz => hy z (by simp [hz])) hs.2 (by rw [← List.drop_drop, hw, List.drop_left]) (by omega) (by simp; omega) (by omega)]
    have hye : (⟨y.f0, y.f1, y.f2, y.f3⟩ : S44) = y := by cases y; rfl
    rw [hye]
    simp
theorem comp_all : ∀ (N : Nat) (x : S44), isz x ≤ N → N ≤ 3000 → FirstC x := by
  intro N
  induction N with
  | zero => intro x hx; have := isz_pos x; omega
  | succ N ih =>
    intro x hx hN d a k rest hs ha hr hk
    have hp := isz_pos x
    have hz := isz_eq x
    have hw := wr_len x
    have hsz := shp_eq x d
    rw [hs] at hsz
    have hd : d ≤ 32 := by
      have h' := hs
      rw [shp_eq] at h'
      simp only [Bool.and_eq_true, decide_eq_true_eq] at h'
      exact h'.1.1.1.1
    have hl : (wr x ++ rest).length = (wr x).length + rest.length := by simp
    obtain ⟨k, rfl⟩ : ∃ j, k = j + 1 := ⟨k - 1, by omega⟩
    rw [wire_reader_first.f, head_some _ d a k (by omega) (by omega) (by omega), Option.bind_some, hd_wr x d a rest hs (by omega) ha]
    simp only
    rw [if_pos trivial]
    have e0 := wr_eq x
    cases hn : x.f0 with
    | true =>
      rw [hn] at e0 hsz
      simp only [if_true] at e0 hsz ⊢
      have hsz2 := hsz.symm
      simp only [Bool.and_eq_true, decide_eq_true_eq] at hsz2
      have hf2 : x.f2 = ⟨#[]⟩ := ba_ext2 (List.eq_nil_of_length_eq_zero (by simpa using hsz2.1.2))
      have hwl : (wr x).length = 1 + (lenL (wrL x.f3).length).length + (wrL x.f3).length := by rw [e0]; simp; omega
      have hxl := iszL_len x.f3
      have hbody : ((wr x ++ rest).take (wr x).length).drop ((wr x).length - (wrL x.f3).length) = wrL x.f3 := by
        rw [List.take_left, hwl]
        have : 1 + (lenL (wrL x.f3).length).length + (wrL x.f3).length - (wrL x.f3).length = (lenL (wrL x.f3).length).length + 1 := by omega
        rw [this, e0, List.drop_succ_cons, List.drop_left]
      rw [loop_comp (wr x ++ rest) (wr x).length d a (by omega) (by omega) hd (by omega) x.f1 x.f3 ((wr x).length - (wrL x.f3).length) k [] (fun y hy => ih y (by have := iszL_mem x.f3 y hy; omega) (by omega)) hsz2.2 hbody (by omega) (by simp; omega) (by omega), List.nil_append, ← hf2]
    | false =>
      rw [hn] at e0 hsz
      simp only [Bool.false_eq_true, if_false] at e0 hsz ⊢
      have hsz2 := hsz.symm
      simp only [Bool.and_eq_true, decide_eq_true_eq, List.isEmpty_iff] at hsz2
      have hwl : (wr x).length = 1 + (lenL x.f2.data.toList.length).length + x.f2.data.toList.length := by rw [e0]; simp; omega
      have hbody : ((wr x ++ rest).take (wr x).length).drop ((wr x).length - x.f2.data.toList.length) = x.f2.data.toList := by
        rw [List.take_left, hwl]
        have : 1 + (lenL x.f2.data.toList.length).length + x.f2.data.toList.length - x.f2.data.toList.length = (lenL x.f2.data.toList.length).length + 1 := by omega
        rw [this, e0, List.drop_succ_cons, List.drop_left]
      rw [if_pos (by omega), if_pos (by omega), if_pos (by rw [baL_size]; omega), Int.toNat_natCast, Int.toNat_natCast, baL_ext, hbody, ← baL_of, hsz2.1.2]
end Go.Proofs.Ytkgijkfcmbpgpaa.Giv
end

section
namespace Go.Proofs.Ytkgijkfcmbpgpaa.Giv
open Go.RowKit Go.Proofs.YtkgijkfcmbpgpaaW.PrintWords Go.Proofs.YtkgijkfcmbpgpaaW.PrintLast Go.Proofs.YtkgijkfcmbpgpaaW.PrintMore Go.Proofs.Ytkgijkfcmbpgpaa.PWir
set_option linter.unusedVariables false
set_option linter.unusedSimpArgs false
mutual
theorem sameB_refl : ∀ x : S44, sameB x x = true
  | ⟨n, t, s, l⟩ => by rw [sameB, sameL_refl l]; simp
theorem sameL_refl : ∀ l : List S44, sameL l l = true
  | [] => by rw [sameL]
  | x :: r => by rw [sameL, sameB_refl x, sameL_refl r]; rfl
end
mutual
theorem sameB_eq : ∀ x y : S44, sameB x y = true → x = y
  | ⟨n, t, s, l⟩, ⟨m, u, r, k⟩, h => by
    rw [sameB] at h
    simp only [Bool.and_eq_true, beq_iff_eq, decide_eq_true_eq] at h
    obtain ⟨⟨⟨h1, h2⟩, h3⟩, h4⟩ := h
    rw [h1, h2, ba_ext2 h3, sameL_eq l k h4]
theorem sameL_eq : ∀ l k : List S44, sameL l k = true → l = k
  | [], [], _ => rfl
  | x :: l, y :: k, h => by
    rw [sameL] at h
    simp only [Bool.and_eq_true] at h
    rw [sameB_eq x y h.1, sameL_eq l k h.2]
  | [], _ :: _, h => by rw [sameL] at h; exact absurd h (by simp)
  | _ :: _, [], h => by rw [sameL] at h; exact absurd h (by simp)
end
theorem eta44 (x : S44) : (⟨x.f0, x.f1, x.f2, x.f3⟩ : S44) = x := by cases x; rfl
theorem same_some (x y : S44) (hz : isz x ≤ 100000000) : wire_Same.f x.f0 x.f1 x.f2 x.f3 y.f0 y.f1 y.f2 y.f3 = some (sameB x y) := by
  unfold wire_Same.f
  rw [eta44, eta44, if_pos hz]
theorem put_some (x : S44) (hz : isz x ≤ 3000) : wire_Put.f x.f0 x.f1 x.f2 x.f3 = some (if shp x 0 = true then (baL (wr x), 0) else (⟨#[]⟩, 1)) := by
  unfold wire_Put.f
  rw [eta44, if_pos hz]
  split <;> rfl
theorem First_some (x : S44) (rest : List UInt8) (hs : shp x 0 = true) (hz : isz x ≤ 3000) (hr : rest.length ≤ 900000) (k : Nat) (hk : 24000 ≤ k) : wire_First.f k (baL (wr x ++ rest)) = some (x.f0, x.f1, x.f2, x.f3, ((wr x).length : Int), 0) := by
  have hw := wr_len x
  have h := comp_all 3000 x hz (by omega) 0 0 k rest hs (by omega) hr (by omega)
  have h' : wire_reader_first.f k 0 0 (baL (wr x ++ rest)) = _ := h
  unfold wire_First.f
  rw [h', Option.bind_some]
theorem get_some (x : S44) (hs : shp x 0 = true) (hz : isz x ≤ 3000) (k : Nat) (hk : 24000 ≤ k) : wire_Get.f k (baL (wr x)) = some (x.f0, x.f1, x.f2, x.f3, 0) := by
  have h := First_some x [] hs hz (by simp) k hk
  rw [List.append_nil] at h
  unfold wire_Get.f
  rw [h, Option.bind_some]
  simp only
  rw [if_pos trivial, if_neg (by rw [baL_size]; omega)]
theorem First_sound (l : List UInt8) (hl : l.length ≤ 16000) (k : Nat) (n : Bool) (t : Int) (s : ByteArray) (xs : List S44) (m : Int) (h : wire_First.f k (baL l) = some (n, t, s, xs, m, 0)) : ∃ rest, l = wr ⟨n, t, s, xs⟩ ++ rest ∧ m = ((wr ⟨n, t, s, xs⟩).length : Int) ∧ shp ⟨n, t, s, xs⟩ 0 = true := by
  unfold wire_First.f at h
  obtain ⟨⟨b1, b2, b3, b4, b5, b6⟩, hb, h⟩ := Option.bind_eq_some_iff.1 h
  simp only [Option.some.injEq, Prod.mk.injEq] at h
  obtain ⟨rfl, rfl, rfl, rfl, rfl, rfl⟩ := h
  obtain ⟨mm, e, rest, e1, e2, e3, _⟩ := first_sound k l 0 0 b1 b2 b3 b4 b5 hl (by omega) hb
  exact ⟨rest, e1, by rw [e, e2], e3⟩
theorem get_sound (l : List UInt8) (hl : l.length ≤ 16000) (k : Nat) (n : Bool) (t : Int) (s : ByteArray) (xs : List S44) (h : wire_Get.f k (baL l) = some (n, t, s, xs, 0)) : l = wr ⟨n, t, s, xs⟩ ∧ shp ⟨n, t, s, xs⟩ 0 = true := by
  unfold wire_Get.f at h
  obtain ⟨⟨b1, b2, b3, b4, b5, b6⟩, hb, h⟩ := Option.bind_eq_some_iff.1 h
  simp only at h
  by_cases h6 : b6 = 0
  · subst h6
    obtain ⟨rest, e1, e2, e3⟩ := First_sound l hl k b1 b2 b3 b4 b5 hb
    rw [if_pos rfl] at h
    by_cases h7 : b5 < ((baL l).size : Int)
    · rw [if_pos h7] at h
      simp at h
    · rw [if_neg h7] at h
      simp only [Option.some.injEq, Prod.mk.injEq] at h
      obtain ⟨rfl, rfl, rfl, rfl, _⟩ := h
      rw [baL_size, e2] at h7
      have hl2 := congrArg List.length e1
      rw [List.length_append] at hl2
      have hr : rest = [] := List.eq_nil_of_length_eq_zero (by omega)
      rw [hr, List.append_nil] at e1
      exact ⟨e1, e3⟩
  · rw [if_neg h6] at h
    simp only [Option.some.injEq, Prod.mk.injEq] at h
    exact absurd h.2.2.2.2 h6
theorem get_total (l : List UInt8) (hl : l.length ≤ 16000) (k : Nat) (hk : 40000 ≤ k) : ∃ n t s xs e, wire_Get.f k (baL l) = some (n, t, s, xs, e) := by
  obtain ⟨⟨b1, b2, b3, b4, b5, b6⟩, hb⟩ := first_total 16000 l hl (by omega) 0 0 k (by omega) (by omega) (by omega)
  have hb' : wire_reader_first.f k 0 0 (baL l) = _ := hb
  unfold wire_Get.f wire_First.f
  rw [hb', Option.bind_some, Option.bind_some]
  simp only
  split
  · split
    · exact ⟨_, _, _, _, _, rfl⟩
    · exact ⟨_, _, _, _, _, rfl⟩
  · exact ⟨_, _, _, _, _, rfl⟩
/-- How large an item is. -/
theorem ref_size_all : ∀ (N : Nat) (x : S44), isz x ≤ N → N ≤ 100000000 → ∀ k, 2 * isz x ≤ k → legateref01_size.f k x.f0 x.f1 x.f2 x.f3 = some (isz x : Int) := by
  intro N
  induction N with
  | zero => intro x hx; have := isz_pos x; omega
  | succ N ih =>
    intro x hx hN k hk
    have hp := isz_pos x
    have hz := isz_eq x
    obtain ⟨k, rfl⟩ : ∃ j, k = j + 1 := ⟨k - 1, by omega⟩
    have hxl := iszL_len x.f3
    have loop : ∀ (m i n k : Nat), i + m = x.f3.length → 2 * iszL (x.f3.drop i) + 1 ≤ k → n + iszL (x.f3.drop i) ≤ 100000000 → legateref01_size.l0 k (n : Int) (i : Int) x.f0 x.f1 x.f2 x.f3 = some ((n + iszL (x.f3.drop i) : Nat) : Int) := by
      intro m
      induction m with
      | zero =>
        intro i n k hi hk hn
        obtain ⟨k, rfl⟩ : ∃ j, k = j + 1 := ⟨k - 1, by omega⟩
        rw [legateref01_size.l0, if_neg (by omega), List.drop_eq_nil_of_le (by omega), iszL]
        rfl
      | succ m ihm =>
        intro i n k hi hk hn
        obtain ⟨k, rfl⟩ : ∃ j, k = j + 1 := ⟨k - 1, by omega⟩
        have hlt : i < x.f3.length := by omega
        have hd := iszL_drop x.f3 i hlt
        have hm := iszL_mem x.f3 _ (rd_mem x.f3 i hlt)
        have hpc := isz_pos (rd_T44 x.f3 (i : Int))
        have hc := ih (rd_T44 x.f3 (i : Int)) (by omega) (by omega) k (by omega)
        have g1 : (i : Int) < (x.f3.length : Int) := by omega
        have g2 : (0 : Int) ≤ (i : Int) := by omega
        have hnx := ihm (i + 1) (n + isz (rd_T44 x.f3 (i : Int))) k (by omega) (by omega) (by omega)
        have w1 : wrap64 ((n : Int) + (isz (rd_T44 x.f3 (i : Int)) : Int)) = ((n + isz (rd_T44 x.f3 (i : Int)) : Nat) : Int) := by unfold wrap64; omega
        have W1 := Aside0.mk w1
        clear w1
        have w2 : wrap64 ((i : Int) + 1) = ((i + 1 : Nat) : Int) := by unfold wrap64; omega
        rw [legateref01_size.l0, if_pos g1, if_pos g2, hc, Option.bind_some, W1.out, w2, hnx, hd, Nat.add_assoc]
    have w0 : wrap64 (1 + (x.f2.size : Int)) = ((1 + x.f2.size : Nat) : Int) := by unfold wrap64; omega
    have h := loop x.f3.length 0 (1 + x.f2.size) k (by omega) (by rw [List.drop_zero]; omega) (by rw [List.drop_zero]; omega)
    rw [List.drop_zero] at h
    have h' : legateref01_size.l0 k ((1 + x.f2.size : Nat) : Int) 0 x.f0 x.f1 x.f2 x.f3 = _ := h
    rw [legateref01_size.f, w0, h', hz]
theorem large_some (x : S44) (hz : isz x ≤ 100000000) (k : Nat) (hk : 2 * isz x ≤ k) : legateref01_Large.f k x.f0 x.f1 x.f2 x.f3 2000 = some (decide (2000 < isz x)) := by
  unfold legateref01_Large.f
  rw [ref_size_all _ x (Nat.le_refl _) hz k hk, Option.bind_some]
  congr 1
  exact decide_eq_decide.2 (by omega)
def exI : S44 := ⟨false, 1, ⟨#[104, 105]⟩, []⟩
def exT : S44 := ⟨true, 2, ⟨#[]⟩, [exI]⟩
theorem exT_isz : isz exT = 4 := by simp [exT, isz, iszL, exI]; rfl
theorem exT_shp : shp exT 0 = true := by simp [exT, shp, shpL, exI]; rfl
theorem exT_wr : wr exT = [130, 4, 1, 2, 104, 105] := by simp only [exT, wr, wrL, exI]; decide +kernel
theorem works01 (k : Nat) (hk : 24000 ≤ k) : legatelaw01_works.f k = some true := by
  have hz := exT_isz
  have hz0 : isz z44 ≤ 3000 := by rw [z44, isz, iszL]; decide
  have hp := put_some exT (by omega)
  rw [if_pos exT_shp] at hp
  have hg := get_some exT exT_shp (by omega) k hk
  have hf := First_some exT [122] exT_shp (by omega) (by simp) k hk
  have hs := same_some exT exT (by omega)
  rw [sameB_refl] at hs
  have hv := valid_some exT (by omega) k hk
  rw [exT_shp] at hv
  have hv0 := valid_some z44 hz0 k hk
  have hs0 : shp z44 0 = false := by rw [z44, shp]; simp
  rw [hs0] at hv0
  have e1 : wire_Put.f true 2 (⟨#[]⟩ : ByteArray) [exI] = _ := hp
  have e2 : ∀ y, y = exT → wire_Same.f true 2 (⟨#[]⟩ : ByteArray) [exI] y.f0 y.f1 y.f2 y.f3 = some true := fun y hy => by rw [hy]; exact hs
  have e3 : wire_Valid.f k true 2 (⟨#[]⟩ : ByteArray) [exI] = some true := hv
  have e4 : wire_Valid.f k false 0 (⟨#[]⟩ : ByteArray) ([] : List S44) = some false := hv0
  have e5 : baL (wr exT) ++ (⟨#[122]⟩ : ByteArray) = baL (wr exT ++ [122]) := baL_app (wr exT) [122]
  have hlen : (wr exT).length = 6 := by rw [exT_wr]; rfl
  unfold legatelaw01_works.f
  rw [Option.bind_some]
  show ((wire_Put.f true 2 (⟨#[]⟩ : ByteArray) [exI]).bind fun bt299 => _) = some true
  rw [e1, Option.bind_some]
  show ((wire_Get.f k (baL (wr exT))).bind fun bt301 => _) = some true
  rw [hg, Option.bind_some]
  show ((wire_Same.f true 2 (⟨#[]⟩ : ByteArray) [exI] exT.f0 exT.f1 exT.f2 exT.f3).bind fun t309 => _) = some true
  rw [e2 exT rfl, Option.bind_some]
  show (if (baL (wr exT)).size + 1 ≤ 9223372036854775807 then ((wire_First.f k (baL (wr exT) ++ (⟨#[122]⟩ : ByteArray))).bind fun bt310 => _) else none) = some true
  rw [if_pos (by rw [baL_size, hlen]; omega), e5, hf, Option.bind_some]
  show (if (baL (wr exT)).toList = ([130, 4, 1, 2, 104, 105] : List UInt8) then (if (0 : Int) = 0 then (if (0 : Int) = 0 then (if true = true then (if ((wr exT).length : Int) = 6 then (if (0 : Int) = 0 then ((wire_Valid.f k true 2 (⟨#[]⟩ : ByteArray) [exI]).bind fun t319 => (if t319 = true then ((wire_Valid.f k false 0 (⟨#[]⟩ : ByteArray) ([] : List (S44))).bind fun t320 => (some (!t320))) else (some false))) else (some false)) else (some false)) else (some false)) else (some false)) else (some false)) else (some false)) = some true
  rw [if_pos (by rw [baL_toList, exT_wr]), if_pos rfl, if_pos rfl, if_pos rfl, if_pos (by rw [hlen]; rfl), if_pos rfl, e3, Option.bind_some, if_pos rfl, e4, Option.bind_some]
  rfl
end Go.Proofs.Ytkgijkfcmbpgpaa.Giv
end

section
namespace Go.Proofs.Ytkgijkfcmbpgpaa.Pure
open Go.RowKit Go.Proofs.Ytkgijkfcmbpgpaa.PWir Go.Proofs.YtkgijkfcmbpgpaaW.PrintWords Go.Proofs.YtkgijkfcmbpgpaaW.PrintLast
open Go.Proofs.Ytkgijkfcmbpgpaa.Giv
set_option linter.unusedVariables false
set_option linter.unusedSimpArgs false

theorem bytes_out (k : Nat) (x : S44) (c b : Int) : legatelaw01_WireBytes.j0 (k + 1) c b true true x.f0 x.f1 x.f2 x.f3 = some true := by
  rw [legatelaw01_WireBytes.j0, if_pos rfl]
theorem bytes_out1 (k : Nat) (x : S44) (c b : Int) (s : ByteArray) : legatelaw01_WireBytes.j1 (k + 1) c b true s true x.f0 x.f1 x.f2 x.f3 = some true := by
  rw [legatelaw01_WireBytes.j1, if_pos rfl]
theorem xor_other (x y : Int) (hx : 0 ≤ x ∧ x < 256) (hy : 0 ≤ y ∧ y < 256) (h0 : y ≠ 0) : (0 ≤ Go.bits .xor .u8 x y ∧ Go.bits .xor .u8 x y < 256) ∧ Go.bits .xor .u8 x y ≠ x := by
  rw [u8_xor x y hx.1 hx.2 hy.1 hy.2]
  have h1 := Nat.xor_lt_two_pow (n := 8) (show x.toNat < 2 ^ 8 by omega) (show y.toNat < 2 ^ 8 by omega)
  refine ⟨by omega, fun e => h0 ?_⟩
  have e1 : x.toNat ^^^ y.toNat = x.toNat := by omega
  have e2 : (y.toNat ^^^ x.toNat) ^^^ x.toNat = y.toNat := by rw [Nat.xor_assoc, Nat.xor_self, Nat.xor_zero]
  rw [Nat.xor_comm y.toNat, e1, Nat.xor_self] at e2
  omega
theorem bytes_in (k : Nat) (hk : 40000 ≤ k) (x : S44) (c : Nat) (b : Int) (hx : isz x ≤ 2000) (hs : shp x 0 = true) (hb : 0 ≤ b ∧ b < 256) (hb0 : b ≠ 0) (hc : c < (wr x).length) : legatelaw01_WireBytes.j1 (k + 1) (c : Int) b true (baL (wr x)) false x.f0 x.f1 x.f2 x.f3 = some true := by
  have hw := wr_len x
  have hz := baL_size (wr x)
  have hq := bt_baL (wr x) c
  have hcl := ((wr x).getD c 0).toNat_lt
  have hxo := xor_other (bt (baL (wr x)) (c : Int)) b (by rw [hq]; omega) hb hb0
  obtain ⟨v, hv⟩ : ∃ v, v = Go.bits .xor .u8 (bt (baL (wr x)) (c : Int)) b := ⟨_, rfl⟩
  rw [← hv, hq] at hxo
  obtain ⟨m, rfl⟩ : ∃ m : Nat, v = (m : Int) := ⟨v.toNat, by have := hxo.1.1; omega⟩
  have HV := Aside0.mk hv
  have hm : m < 256 := by have := hxo.1.2; omega
  have hmx : m ≠ ((wr x).getD c 0).toNat := by have := hxo.2; omega
  clear hv hq hxo hcl
  have hstr : strOfNums [(m : Int)] = baL [UInt8.ofNat m] := by
    apply ba_ext2
    rw [baL_list]
    simp [strOfNums]
  have w1 : wrap64 ((c : Int) + 1) = ((c + 1 : Nat) : Int) := by unfold wrap64; omega
  have hl1 : ((wr x).take c).length = c := List.length_take_of_le (Nat.le_of_lt hc)
  have e1 : (baL (wr x)).extract 0 c = baL ((wr x).take c) := by rw [baL_ext, List.drop_zero]
  have e2 : (baL (wr x)).extract (c + 1) (baL (wr x)).size = baL ((wr x).drop (c + 1)) := by rw [baL_ext, baL_size, List.take_of_length_le (Nat.le_refl _)]
  obtain ⟨t, ht⟩ : ∃ t, t = (wr x).take c ++ [UInt8.ofNat m] ++ (wr x).drop (c + 1) := ⟨_, rfl⟩
  have htl : t.length = (wr x).length := by rw [ht, List.length_append, List.length_append, hl1, List.length_singleton, List.length_drop]; omega
  have hne : t ≠ wr x := by
    intro e
    have h1 : t[c]? = some (UInt8.ofNat m) := by
      rw [ht, List.append_assoc, List.getElem?_append_right (by omega), hl1]
      simp
    rw [e, List.getElem?_eq_getElem hc] at h1
    have h2 := congrArg UInt8.toNat (Option.some.inj h1)
    rw [toNat_of m hm] at h2
    have h3 : (wr x).getD c 0 = (wr x)[c] := by rw [List.getD_eq_getElem?_getD, List.getElem?_eq_getElem hc]; rfl
    rw [h3] at hmx
    exact hmx h2.symm
  obtain ⟨n1, t1, s1, x1, r1, hg⟩ := get_total t (by omega) k (by omega)
  have W1 := Aside0.mk w1
  have hd := List.length_drop (i := c + 1) (l := wr x)
  have g1 : (0 : Int) ≤ (c : Int) := by omega
  have g2 : (c : Int) ≤ ((baL (wr x)).size : Int) := by rw [hz]; omega
  have g3 : (c : Int) < ((baL (wr x)).size : Int) := by rw [hz]; omega
  have g4 : (baL ((wr x).take c)).size + (baL [UInt8.ofNat m]).size ≤ 9223372036854775807 := by rw [baL_size, baL_size, hl1]; simp only [List.length_singleton]; omega
  have g5 : (0 : Int) ≤ ((c + 1 : Nat) : Int) := by omega
  have g6 : ((c + 1 : Nat) : Int) ≤ ((baL (wr x)).size : Int) := by rw [hz]; omega
  have g7 : (baL ((wr x).take c ++ [UInt8.ofNat m])).size + (baL ((wr x).drop (c + 1))).size ≤ 9223372036854775807 := by rw [baL_size, baL_size, List.length_append, hl1, List.length_singleton, hd]; omega
  clear w1
  rw [legatelaw01_WireBytes.j1, if_neg (by simp), if_pos g1, if_pos g2, if_pos g3, Option.bind_some, ← HV.out, hstr, W1.out, Int.toNat_natCast, Int.toNat_natCast, e1, e2, if_pos g4, if_pos g5, if_pos g6, baL_app, if_pos g7, baL_app, ← ht, hg, Option.bind_some, if_pos rfl]
  show (if r1 = 0 then ((wire_Same.f x.f0 x.f1 x.f2 x.f3 n1 t1 s1 x1).bind fun t474 => (some (!t474))) else (some true)) = some true
  by_cases h1 : r1 = 0
  · subst h1
    obtain ⟨q1, _⟩ := get_sound t (by omega) k n1 t1 s1 x1 hg
    have hse : wire_Same.f x.f0 x.f1 x.f2 x.f3 n1 t1 s1 x1 = some (sameB x ⟨n1, t1, s1, x1⟩) := same_some x ⟨n1, t1, s1, x1⟩ (by omega)
    have hf : sameB x ⟨n1, t1, s1, x1⟩ = false := by
      rw [Bool.eq_false_iff]
      intro h
      rw [← sameB_eq _ _ h] at q1
      exact hne q1
    rw [if_pos rfl, hse, Option.bind_some, hf]
    rfl
  · rw [if_neg h1]
theorem WireBytes (x : S44) (c b : Int) (hx : isz x ≤ 4000000) (hb : 0 ≤ b ∧ b < 256) : ∃ k, legatelaw01_WireBytes.f k x.f0 x.f1 x.f2 x.f3 c b = some true := by
  refine ⟨9000000 + 1 + 1, ?_⟩
  generalize hk : 9000000 = k
  unfold legatelaw01_WireBytes.f
  rw [works01 _ (by omega), Option.bind_some, if_pos rfl, large_some x (by omega) _ (by omega), Option.bind_some]
  by_cases h1 : 2000 < isz x
  · rw [decide_eq_true h1, if_pos rfl]; exact bytes_out (k + 1) x c b
  · rw [decide_eq_false h1, if_neg (by simp), valid_some x (by omega) _ (by omega), Option.bind_some]
    by_cases hs : shp x 0 = true
    · rw [hs, if_pos rfl]
      by_cases h2 : b = 0
      · subst h2; exact bytes_out (k + 1) x c 0
      · rw [beq_eq_false_iff_ne.2 h2, legatelaw01_WireBytes.j0, if_neg (by simp), put_some x (by omega), if_pos hs, Option.bind_some]
        simp only
        by_cases h3 : c < 0
        · rw [if_pos h3]; exact bytes_out1 k x c b _
        · rw [if_neg h3, baL_size]
          by_cases h4 : c ≥ ((wr x).length : Int)
          · rw [decide_eq_true h4]; exact bytes_out1 k x c b _
          · rw [decide_eq_false h4]
            obtain ⟨c, rfl⟩ : ∃ d : Nat, c = (d : Int) := ⟨c.toNat, by omega⟩
            exact bytes_in k (by omega) x c b (by omega) hs hb h2 (by omega)
    · rw [if_neg hs]; exact bytes_out (k + 1) x c b

end Go.Proofs.Ytkgijkfcmbpgpaa.Pure
end

section
namespace Go.Proofs.Ytkgijkfcmbpgpaa.Giv
open Go.RowKit Go.Proofs.YtkgijkfcmbpgpaaW.PrintWords Go.Proofs.Ytkgijkfcmbpgpaa.PWir
set_option linter.unusedVariables false
set_option linter.unusedSimpArgs false
variable {H : Type} {enc : TypeId × Value → H} {w : World}
theorem cellsOf44 : Try.prog.cellsOf 44 = 4 := by kernel_rfl
theorem cellsOf42 : Try.prog.cellsOf 42 = 1 := by kernel_rfl
theorem cellsOf4 : Try.prog.cellsOf 4 = 1 := by kernel_rfl
theorem cellsOf3 : Try.prog.cellsOf 3 = 1 := by kernel_rfl
theorem cellsOf9 : Try.prog.cellsOf 9 = 1 := by kernel_rfl
noncomputable def rd0 (enc : TypeId × Value → H) (w : World) (fuel : Nat) (t : TypeId) (cs : List Value) : Option (DataW H × List MemPlace) := DataW.trod enc Try.prog w 0 (fun _ => true) true fuel t cs
theorem open_b (fuel : Nat) (v : Value) (d : DataW H) (ps : List MemPlace) (h : rd0 enc w fuel 4 [v] = some (d, ps)) : ∃ b, v = .bool b ∧ d = .lit (.bool b) := by
  cases fuel with
  | zero => simp [rd0, DataW.trod] at h
  | succ n =>
    unfold rd0 DataW.trod at h
    simp only [Try.underlying4] at h
    split at h <;> simp_all
theorem open_i (fuel : Nat) (v : Value) (d : DataW H) (ps : List MemPlace) (h : rd0 enc w fuel 3 [v] = some (d, ps)) : ∃ n, v = .int .i64 n ∧ d = .lit (.int .i64 n) := by
  cases fuel with
  | zero => simp [rd0, DataW.trod] at h
  | succ n =>
    unfold rd0 DataW.trod at h
    simp only [Try.underlying3] at h
    split at h <;> simp_all
theorem open_s (fuel : Nat) (v : Value) (d : DataW H) (ps : List MemPlace) (h : rd0 enc w fuel 9 [v] = some (d, ps)) : ∃ s, v = .string s ∧ d = .lit (.string s.data.toList) := by
  cases fuel with
  | zero => simp [rd0, DataW.trod] at h
  | succ n =>
    unfold rd0 DataW.trod at h
    simp only [Try.underlying9] at h
    split at h <;> simp_all
theorem mapM_getElem {α β : Type} {f : α → Option β} : ∀ (l : List α) (r : List β), l.mapM f = some r → r.length = l.length ∧ ∀ (j : Nat) (a : α), l[j]? = some a → ∃ b : β, r[j]? = some b ∧ f a = some b
  | [], r, h => by
    simp at h
    subst h
    exact ⟨rfl, fun j a hj => by simp at hj⟩
  | x :: l, r, h => by
    rw [List.mapM_cons] at h
    cases hx : f x with
    | none => simp [hx] at h
    | some b =>
      cases hl : l.mapM f with
      | none => simp [hx, hl] at h
      | some bs =>
        simp [hx, hl] at h
        subst h
        obtain ⟨e, k⟩ := mapM_getElem l bs hl
        refine ⟨by simp [e], fun j a hj => ?_⟩
        cases j with
        | zero => simp at hj; subst hj; exact ⟨b, rfl, hx⟩
        | succ j => simpa using k j a (by simpa using hj)
/-- Items one behind the other, each as_ it is read. -/
def IsRow (w : World) (ad : Addr) (r : List (DataW H × List MemPlace)) (xs : List S44) : Prop := xs.length = r.length ∧ iszL xs ≤ Rows.uptoBulkAll (r.map (·.1)) ∧ ∀ j p, xs[j]? = some p → ∃ c, c.length = 4 ∧ k44.K w p c ∧ ∀ i u, c[i]? = some u → w.cell? (ad.add (j * 4 + i)) = some u
theorem rows_of {ad : Addr} (g : Nat → Option (DataW H × List MemPlace)) (hg : ∀ i d ps, g i = some (d, ps) → ∃ x c, c.length = 4 ∧ k44.K w x c ∧ isz x ≤ Rows.uptoBulk d ∧ ∀ j u, c[j]? = some u → w.cell? (ad.add (i * 4 + j)) = some u) :
    ∀ (n : Nat) (r : List (DataW H × List MemPlace)), (List.range n).mapM g = some r → ∃ xs, IsRow w ad r xs := by
  intro n
  induction n with
  | zero =>
    intro r h
    simp at h
    subst h
    exact ⟨[], rfl, Nat.le_refl _, fun j p hj => by simp at hj⟩
  | succ n ih =>
    intro r h
    rw [List.range_succ, List.mapM_append] at h
    cases h1 : (List.range n).mapM g with
    | none => simp [h1] at h
    | some r1 =>
      cases h2 : g n with
      | none => simp [h1, h2] at h
      | some b =>
        simp [h1, h2] at h
        subst h
        obtain ⟨xs, e, hs, hx⟩ := ih r1 h1
        obtain ⟨x, c, hc, hk, hz, hcell⟩ := hg n b.1 b.2 h2
        have hn : r1.length = n := by simpa using (mapM_getElem _ _ h1).1
        refine ⟨xs ++ [x], by simp [e], ?_, fun j p hj => ?_⟩
        · have a1 : ∀ (a b : List (DataW H)), Rows.uptoBulkAll (a ++ b) = Rows.uptoBulkAll a + Rows.uptoBulkAll b := by
            intro a b
            induction a with
            | nil => simp [Rows.uptoBulkAll]
            | cons y ys ihh => simp only [List.cons_append, Rows.uptoBulkAll, ihh]; omega
          have a2 : ∀ (a b : List S44), iszL (a ++ b) = iszL a + iszL b := by
            intro a b
            induction a with
            | nil => simp [iszL]
            | cons y ys ihh => simp only [List.cons_append, iszL, ihh]; omega
          rw [a2, List.map_append, a1]
          simp only [iszL, List.map_cons, List.map_nil, Rows.uptoBulkAll]
          omega
        · by_cases hj2 : j < xs.length
          · rw [List.getElem?_append_left hj2] at hj
            exact hx j p hj
          · rw [List.getElem?_append_right (by omega)] at hj
            have : j - xs.length = 0 := by
              cases hq : j - xs.length with
              | zero => rfl
              | succ m => rw [hq] at hj; simp at hj
            rw [this] at hj
            simp at hj
            subst hj
            have : j = n := by omega
            subst this
            exact ⟨c, hc, hk, hcell⟩
theorem cells_of {ad : Addr} {n : Nat} {cs : List Value} (h : w.cells? 0 ad n = some cs) : cs.length = n ∧ ∀ j u, cs[j]? = some u → w.cell? (ad.add j) = some u := by
  unfold World.cells? at h
  rw [if_pos (Nat.zero_le _)] at h
  obtain ⟨e, k⟩ := mapM_getElem _ _ h
  rw [List.length_range] at e
  refine ⟨e, fun j u hj => ?_⟩
  have hl : j < cs.length := by
    rcases Nat.lt_or_ge j cs.length with q | q
    · exact q
    · rw [List.getElem?_eq_none q] at hj; cases hj
  obtain ⟨b, hb, hf⟩ := k j j (by rw [List.getElem?_range (by omega)])
  rw [hj] at hb
  cases hb
  exact hf
theorem open44 : ∀ (fuel : Nat) (cs : List Value) (d : DataW H) (ps : List MemPlace), rd0 enc w fuel 44 cs = some (d, ps) →
    ∃ (x : S44) (A : Option Addr) (c : Nat), cs = [.bool x.f0, .int .i64 x.f1, .string x.f2, .slice A x.f3.length c] ∧ x.f3.length ≤ c ∧ k44.C w A x.f3.length x.f3 ∧ isz x ≤ Rows.uptoBulk d := by
  intro fuel
  induction fuel using Nat.strongRecOn with
  | _ fuel ih =>
  intro cs d ps h
  cases fuel with
  | zero => simp [rd0, DataW.trod] at h
  | succ n =>
    unfold rd0 DataW.trod at h
    simp only [Try.underlying44, cellsOf44] at h
    split at h
    case isFalse => cases h
    case isTrue hlen =>
    obtain ⟨v0, v1, v2, v3, rfl⟩ : ∃ v0 v1 v2 v3, cs = [v0, v1, v2, v3] := by
      match cs, hlen with
      | [v0, v1, v2, v3], _ => exact ⟨v0, v1, v2, v3, rfl⟩
    simp only [List.mapM_cons, List.mapM_nil, cellsOf4, cellsOf3, cellsOf9, cellsOf42, List.drop, List.take, List.drop_succ_cons, List.drop_zero, List.take_succ_cons, List.take_zero] at h
    simp only [Option.map_eq_some_iff, Option.bind_eq_bind, Option.bind_eq_some_iff, Option.pure_def, Option.some.injEq] at h
    obtain ⟨xs, ⟨x0, h0, _, ⟨x1, h1, _, ⟨x2, h2, _, ⟨x3, h3, _, rfl, rfl⟩, rfl⟩, rfl⟩, rfl⟩, hd⟩ := h
    obtain ⟨b, rfl, e0⟩ := open_b n v0 x0.1 x0.2 h0
    obtain ⟨i, rfl, e1⟩ := open_i n v1 x1.1 x1.2 h1
    obtain ⟨s, rfl, e2⟩ := open_s n v2 x2.1 x2.2 h2
    cases hd
    simp only [List.map_cons, List.map_nil, e0, e1, e2]
    -- the others
    cases n with
    | zero => simp [DataW.trod] at h3
    | succ m =>
      unfold DataW.trod at h3
      simp only [Try.underlying42] at h3
      split at h3
      all_goals first | (exfalso; simp_all; done) | skip
      case h_7 =>
        rename_i hv
        injection hv with hv
        subst hv
        refine ⟨⟨b, i, s, []⟩, none, 0, rfl, Nat.le_refl _, ⟨rfl, by simp, fun hp => absurd hp (by simp)⟩, ?_⟩
        simp only [isz, iszL, Rows.uptoBulk, Rows.uptoBulkAll, Array.length_toList]
        simp only [ByteArray.size]
        omega
      case h_8 =>
        rename_i e a len cap ht hv
        injection hv with hv
        subst hv
        injection ht with ht
        injection ht with ht
        subst ht
        simp only [cellsOf44, if_true] at h3
        split at h3
        case isFalse => cases h3
        case isTrue hb =>
        simp only [Option.map_eq_some_iff, Option.bind_eq_some_iff] at h3
        obtain ⟨elems, he, rest, hr, h3⟩ := h3
        subst h3
        have ihm := ih m (by omega)
        obtain ⟨xs, hx1, hx2, hx3⟩ := rows_of (ad := a) _ (fun i d ps hg => by
          obtain ⟨cs, hc, ht⟩ := Option.bind_eq_some_iff.1 hg
          obtain ⟨x, A, c, rfl, hle, hC, hz⟩ := ihm cs d ps ht
          obtain ⟨_, hcell⟩ := cells_of hc
          exact ⟨x, _, rfl, k44_mk w x hle hC, hz, fun j u hj => by rw [← Addr.add_add]; exact hcell j u hj⟩) len elems he
        have hl : elems.length = len := by simpa using (mapM_getElem _ _ he).1
        have hlx : xs.length = len := by rw [hx1, hl]
        subst hlx
        refine ⟨⟨b, i, s, xs⟩, some a, cap, rfl, hb.2.1, ⟨rfl, by have := hb.2.2; have := hb.2.1; simp only [maxLen] at *; omega, fun _ => ⟨a, rfl, hx3⟩⟩, ?_⟩
        simp only [isz, Rows.uptoBulk, Rows.uptoBulkAll, Array.length_toList]
        simp only [ByteArray.size]
        omega
theorem item44 {v : Value} {d : DataW H} {ps : List MemPlace} (h : DataW.Trod enc Try.prog w 0 (fun _ => true) true 44 v d ps) :
    ∃ (x : S44) (A : Option Addr) (c : Nat), v = .agg #[.bool x.f0, .int .i64 x.f1, .string x.f2, .slice A x.f3.length c] ∧ x.f3.length ≤ c ∧ k44.C w A x.f3.length x.f3 ∧ isz x ≤ Rows.uptoBulk d := by
  obtain ⟨fuel, h⟩ := h
  obtain ⟨x, A, c, he, h1, h2, h3⟩ := open44 fuel _ _ _ h
  refine ⟨x, A, c, ?_, h1, h2, h3⟩
  cases v with
  | agg cs =>
    simp only [Value.cells] at he
    rw [show cs = cs.toList.toArray by simp, he]
  | _ => simp [Value.cells] at he
end Go.Proofs.Ytkgijkfcmbpgpaa.Giv
end
