/- Joined by wip/pack.py out of: MWire2, MWire3, MWire4, PureWireOne; what nothing here names is left out. -/
import Derived.ArgAppend
import Derived.Below
import Derived.BigQuiet
import Derived.Deep.AppendLies
import Derived.Deep.CutBlock
import Derived.Deep.DeepCutAuto
import Derived.Deep.Draws
import Derived.Deep.LoopGhost
import Derived.Deep.OwnRows
import Derived.Deep.QuietTactic
import Derived.Deep.RegionHeld3
import Derived.KernelRfl
import Derived.Laws.BitsLemmas
import Derived.Laws.BytesArg
import Derived.Laws.IdiomCopy
import Derived.Laws.MakeOwn
import Derived.Laws.OwnMore
import Derived.Laws.Rows
import Derived.Laws.Slices
import Derived.Laws.StructEq
import Derived.Lib.AppendStr
import Derived.Lib.ConvBytes
import Derived.Maps.AppendAt
import Derived.OrdersHeld
import Derived.OwnWalk
import Derived.RowKit
import Derived.RowKit3
import Derived.Shelf.Strings.Builder1
import Derived.Shelf.Strings.BuilderF
import Derived.Shelf.Strings.BuilderK
import Derived.Tactics
import Derived.WalkKit
import Derived.WideLaws
import Derived.Test.YtkgijkfcmbpgpaaO1b2
import Derived.Test.YtkgijkfcmbpgpaaO1b4
import Derived.Test.YtkgijkfcmbpgpaaO1b6
import Derived.Test.YtkgijkfcmbpgpaaO1b7
import Derived.Test.YtkgijkfcmbpgpaaO1b8
import Derived.Test.YtkgijkfcmbpgpaaO1b9
import Derived.Test.YtkgijkfcmbpgpaaProg
section
namespace Go.Proofs.Ytkgijkfcmbpgpaa.Giv
open Go.RowKit Go.Proofs.YtkgijkfcmbpgpaaW.PrintWords Go.Proofs.YtkgijkfcmbpgpaaW.PrintLast Go.Proofs.YtkgijkfcmbpgpaaW.PrintMore Go.Proofs.Ytkgijkfcmbpgpaa.PWir
set_option linter.unusedVariables false
set_option linter.unusedSimpArgs false
theorem baL_list (l : List UInt8) : (baL l).data.toList = l := by simp [baL]
theorem baL_size (l : List UInt8) : (baL l).size = l.length := by simp [baL, ByteArray.size]
theorem baL_toList (l : List UInt8) : (baL l).toList = l := by rw [ba_toList, baL_list]
theorem baL_of (s : ByteArray) : s = baL s.data.toList := ba_ext2 (by rw [baL_list])
theorem baL_app (l m : List UInt8) : baL l ++ baL m = baL (l ++ m) := by
  apply ba_ext2
  rw [ByteArray.data_append, Array.toList_append, baL_list, baL_list, baL_list]
theorem baL_ext (l : List UInt8) (i j : Nat) : (baL l).extract i j = baL ((l.take j).drop i) := by
  apply ba_ext2
  rw [baL_list, ByteArray.data_extract]
  show ((l.toArray).extract i j).toList = _
  rw [Array.toList_extract, List.extract_eq_take_drop, List.toList_toArray, List.drop_take]
theorem bt_baL (l : List UInt8) (i : Nat) : bt (baL l) (i : Int) = ((l.getD i 0).toNat : Int) := by
  unfold bt
  by_cases h : i < l.length
  · have h' : (i : Int).toNat < (baL l).size := by rw [baL_size]; simpa using h
    rw [dif_pos h']
    simp only [Int.toNat_natCast]
    have e : (baL l)[i]'(by rw [baL_size]; exact h) = l[i] := by
      have e1 : (baL l).data.toList[i]'(by rw [baL_list]; exact h) = l[i] := List.getElem_of_eq (baL_list l) _
      rw [← e1]
      rfl
    rw [e, List.getD_eq_getElem?_getD, List.getElem?_eq_getElem h]
    rfl
  · rw [dif_neg (by rw [baL_size]; simpa using h)]
    simp [List.getD_eq_getElem?_getD, h]
theorem toNat_of (n : Nat) (h : n < 256) : (UInt8.ofNat n).toNat = n := by
  simp [UInt8.toNat_ofNat_of_lt' (show n < UInt8.size from h)]
theorem numGo_cons (c : UInt8) (r : List UInt8) (n i : Nat) : numGo (c :: r) n i = if n * 128 + c.toNat % 128 > 65536 then (0, 0, 11) else if c.toNat ≥ 128 then numGo r (n * 128 + c.toNat % 128) (i + 1) else (n * 128 + c.toNat % 128, i + 1, 0) := by rw [numGo]
/-- What is written as_ a length is read again. -/
theorem numS_len (t : UInt8) (n : Nat) (rest : List UInt8) (h : n < 16384) : numS (t :: (lenL n ++ rest)) = (n, 1 + (lenL n).length, 0) := by
  unfold lenL numS
  by_cases h1 : n < 128
  · have e := toNat_of n (by omega)
    have hne : ¬ UInt8.ofNat n = 128 := fun q => by have := congrArg UInt8.toNat q; rw [e] at this; have h128 : (128 : UInt8).toNat = 128 := rfl; omega
    rw [if_pos h1, if_neg (by simp [hne]), List.drop_one, List.tail_cons, List.singleton_append, numGo_cons, e, if_neg (by omega), if_neg (by omega)]
    simp
    omega
  · have e := toNat_of (128 + n / 128) (by omega)
    have e2 := toNat_of (n % 128) (by omega)
    have hne : ¬ UInt8.ofNat (128 + n / 128) = 128 := fun q => by have := congrArg UInt8.toNat q; rw [e] at this; have h128 : (128 : UInt8).toNat = 128 := rfl; omega
    rw [if_neg h1, if_neg (fun q => hne q.2), List.drop_one, List.tail_cons, List.cons_append, List.singleton_append, numGo_cons, e, if_neg (by omega), if_pos (by omega), numGo_cons, e2, if_neg (by omega), if_neg (by omega)]
    simp
    omega
theorem numGo_ge : ∀ (l : List UInt8) (n i m j : Nat), numGo l n i = (m, j, 0) → n * 128 ≤ m ∧ i + 1 ≤ j ∧ j ≤ i + l.length
  | [], n, i, m, j, h => by rw [numGo] at h; simp at h
  | c :: r, n, i, m, j, h => by
    rw [numGo_cons] at h
    split at h
    · simp at h
    · split at h
      · have h5 := numGo_ge r _ _ _ _ h
        simp only [List.length_cons]
        have h6 : n ≤ n * 128 + c.toNat % 128 := by omega
        refine ⟨Nat.le_trans (Nat.le_trans (by omega) (Nat.mul_le_mul_right 128 (show n ≤ n * 128 + c.toNat % 128 from h6))) h5.1, by omega, by omega⟩
      · simp only [Prod.mk.injEq] at h
        simp only [List.length_cons]
        omega
theorem numGo_err : ∀ (l : List UInt8) (n i : Nat), (numGo l n i).1 ≤ 65536 ∧ (numGo l n i).2.1 ≤ i + l.length ∧ ((numGo l n i).2.2 = 0 ∨ (numGo l n i).2.2 = 10 ∨ (numGo l n i).2.2 = 11)
  | [], n, i => by rw [numGo]; simp
  | c :: r, n, i => by
    rw [numGo_cons]
    split
    · simp
    · split
      · have := numGo_err r (n * 128 + c.toNat % 128) (i + 1)
        simp only [List.length_cons]
        omega
      · exact ⟨by show n * 128 + c.toNat % 128 ≤ 65536; omega, by show i + 1 ≤ i + (c :: r).length; simp, .inl rfl⟩
/-- What is read as_ a length is written so. -/
theorem numS_back (l : List UInt8) (n i : Nat) (h : numS l = (n, i, 0)) (hn : n < 16384) : ∃ t rest, l = t :: (lenL n ++ rest) ∧ i = 1 + (lenL n).length := by
  unfold numS at h
  split at h
  · simp at h
  · rename_i h0
    match l, h0, h with
    | [], _, h => simp [numGo] at h
    | [t], _, h => simp [numGo] at h
    | t :: c :: r, h0, h =>
      have hc : c ≠ 128 := fun q => h0 (by simp [q])
      have hcn : c.toNat ≠ 128 := fun q => hc (UInt8.toNat_inj.1 q)
      have hcl := c.toNat_lt
      rw [List.drop_one, List.tail_cons, numGo_cons, if_neg (by omega)] at h
      split at h
      · rename_i h1
        match r, h with
        | [], h => simp [numGo] at h
        | d :: r2, h =>
          have hdl := d.toNat_lt
          rw [numGo_cons, if_neg (by omega)] at h
          split at h
          · have := numGo_ge _ _ _ _ _ h
            omega
          · rename_i h2
            simp only [Prod.mk.injEq] at h
            obtain ⟨hn2, hi, _⟩ := h
            refine ⟨t, r2, ?_, ?_⟩
            · unfold lenL
              rw [if_neg (by omega)]
              have e1 : UInt8.ofNat (128 + n / 128) = c := UInt8.toNat_inj.1 (by rw [toNat_of _ (by omega)]; omega)
              have e2 : UInt8.ofNat (n % 128) = d := UInt8.toNat_inj.1 (by rw [toNat_of _ (by omega)]; omega)
              rw [e1, e2]
              rfl
            · unfold lenL
              rw [if_neg (by omega)]
              simp
              omega
      · rename_i h1
        simp only [Prod.mk.injEq] at h
        obtain ⟨hn2, hi, _⟩ := h
        refine ⟨t, r, ?_, ?_⟩
        · unfold lenL
          rw [if_pos (by omega)]
          have e1 : UInt8.ofNat n = c := UInt8.toNat_inj.1 (by rw [toNat_of _ (by omega)]; omega)
          rw [e1]
          rfl
        · unfold lenL
          rw [if_pos (by omega)]
          simp
          omega
theorem number_some (l : List UInt8) (h : l.length ≤ 1000000) : wire_number.f (baL l) = some (((numS l).1 : Int), ((numS l).2.1 : Int), ((numS l).2.2 : Int)) := by
  unfold wire_number.f
  rw [if_pos (by rw [baL_size]; omega), baL_list]
theorem numS_err (l : List UInt8) : (numS l).1 ≤ 65536 ∧ (numS l).2.1 ≤ 1 + l.length ∧ ((numS l).2.2 = 0 ∨ (numS l).2.2 = 10 ∨ (numS l).2.2 = 11 ∨ (numS l).2.2 = 13) := by
  unfold numS
  split
  · simp
  · have := numGo_err (l.drop 1) 0 1
    rw [List.length_drop] at this
    omega
/-- A head, as_ it is read. -/
def hdV (l : List UInt8) (d a : Nat) : Bool × Int × ByteArray × List S44 × Int × Int × Int :=
  if 32 < d then (false, 0, ⟨#[]⟩, [], 0, 0, 12) else if l = [] then (false, 0, ⟨#[]⟩, [], 0, 0, 10) else if (l.getD 0 0).toNat % 128 = 0 then (false, 0, ⟨#[]⟩, [], 0, 0, 13)
  else if (numS l).2.2 ≠ 0 then (false, 0, ⟨#[]⟩, [], 0, 0, ((numS l).2.2 : Int)) else if 65536 < a + (numS l).2.1 + (numS l).1 then (false, 0, ⟨#[]⟩, [], 0, 0, 11)
  else if l.length < (numS l).2.1 + (numS l).1 then (if 0 < d then (false, 0, ⟨#[]⟩, [], 0, 0, 13) else (false, 0, ⟨#[]⟩, [], 0, 0, 10))
  else (decide (128 ≤ (l.getD 0 0).toNat), (((l.getD 0 0).toNat % 128 : Nat) : Int), ⟨#[]⟩, [], ((numS l).2.1 : Int), (((numS l).2.1 + (numS l).1 : Nat) : Int), 0)
theorem head_some (l : List UInt8) (d a k : Nat) (hl : l.length ≤ 1000000) (ha : a ≤ 1000000) (hk : 1 ≤ k) : wire_reader_head.f k (d : Int) (a : Int) (baL l) = some (hdV l d a) := by
  obtain ⟨k, rfl⟩ : ∃ j, k = j + 1 := ⟨k - 1, by omega⟩
  have hz := baL_size l
  have hb : bt (baL l) 0 = ((l.getD 0 0).toNat : Int) := bt_baL l 0
  have hbl := (l.getD 0 0).toNat_lt
  have hne := numS_err l
  have hno := number_some l hl
  unfold wire_reader_head.f hdV
  obtain ⟨c, hc⟩ : ∃ c, c = (l.getD 0 0).toNat := ⟨_, rfl⟩
  rw [hb, hno, ← hc, baL_toList, Option.bind_some]
  rw [← hc] at hbl
  have hb' : bt (baL l) 0 = (c : Int) := by rw [hb, hc]
  clear hno hb hc
  obtain ⟨⟨n, i, e⟩, hq⟩ : ∃ q, q = numS l := ⟨_, rfl⟩
  rw [← hq] at hne ⊢
  clear hq
  simp only at hne ⊢
  by_cases h1 : 32 < d
  · rw [if_pos (by omega), if_pos h1]
  rw [if_neg (by omega), if_neg h1]
  by_cases h2 : l = []
  · rw [if_pos h2, if_pos h2]
  have hpos : 0 < l.length := List.length_pos_iff.2 h2
  have ht : Int.tmod (c : Int) 128 = ((c % 128 : Nat) : Int) := by rw [Int.tmod_eq_emod_of_nonneg (by omega)]; omega
  rw [if_neg h2, if_neg h2, if_pos (by omega), ht]
  by_cases h3 : c % 128 = 0
  · rw [if_pos (by omega), if_pos h3]
  rw [if_neg (by omega), if_neg h3]
  by_cases h4 : e = 0
  · subst h4
    have w1 : wrap64 (wrap64 ((a : Int) + (i : Int)) + (n : Int)) = ((a + i + n : Nat) : Int) := by
      rw [show wrap64 ((a : Int) + (i : Int)) = ((a + i : Nat) : Int) from by unfold wrap64; omega]; unfold wrap64; omega
    have w2 : wrap64 (((baL l).size : Int) - (i : Int)) = (l.length : Int) - (i : Int) := by rw [hz]; unfold wrap64; omega
    have w3 : wrap64 ((i : Int) + (n : Int)) = ((i + n : Nat) : Int) := by unfold wrap64; omega
    have w4 : wrap64 ((c % 128 : Nat) : Int) = ((c % 128 : Nat) : Int) := by unfold wrap64; omega
    have hR : ¬ ((0 : Nat) ≠ 0) := by simp
    rw [if_pos (by rfl), if_neg hR, w1, w2]
    have W2 := Aside0.mk w2
    have W3 := Aside0.mk w3
    have W4 := Aside0.mk w4
    clear w1 w2 w3 w4 hz
    by_cases h5 : 65536 < a + i + n
    · rw [if_pos (by omega), if_pos h5]
    rw [if_neg (by omega), if_neg h5]
    by_cases h6 : l.length < i + n
    · rw [if_pos (by omega), if_pos h6]
      by_cases h7 : 0 < d
      · rw [decide_eq_true (by omega), if_pos h7, wire_reader_head.j0, if_pos rfl]
      · rw [decide_eq_false (by omega), if_neg h7, wire_reader_head.j0, if_neg (by simp), W2.out, if_pos (by omega)]
    · have hps : (0 : Int) < ((baL l).size : Int) := by rw [baL_size]; omega
      rw [if_neg (by omega), if_neg h6, wire_reader_head.j0, if_neg (by simp), W2.out, if_neg (by omega), if_pos hps, hb', ht, W4.out, W3.out]
      congr 2
      exact decide_eq_decide.2 (by omega)
  · rw [if_neg (by omega), if_pos h4]
end Go.Proofs.Ytkgijkfcmbpgpaa.Giv
end

section
namespace Go.Proofs.Ytkgijkfcmbpgpaa.Giv
open Go.RowKit Go.Proofs.YtkgijkfcmbpgpaaW.PrintWords Go.Proofs.YtkgijkfcmbpgpaaW.PrintLast Go.Proofs.YtkgijkfcmbpgpaaW.PrintMore Go.Proofs.Ytkgijkfcmbpgpaa.PWir
set_option linter.unusedVariables false
set_option linter.unusedSimpArgs false
theorem hd_ok (l : List UInt8) (d a : Nat) (h : (hdV l d a).2.2.2.2.2.2 = 0) : ∃ n i, numS l = (n, i, 0) ∧ d ≤ 32 ∧ l ≠ [] ∧ (l.getD 0 0).toNat % 128 ≠ 0 ∧ a + i + n ≤ 65536 ∧ i + n ≤ l.length ∧
    hdV l d a = (decide (128 ≤ (l.getD 0 0).toNat), (((l.getD 0 0).toNat % 128 : Nat) : Int), ⟨#[]⟩, [], (i : Int), ((i + n : Nat) : Int), 0) := by
  unfold hdV at h ⊢
  by_cases h1 : 32 < d
  · rw [if_pos h1] at h; simp at h
  rw [if_neg h1] at h ⊢
  by_cases h2 : l = []
  · rw [if_pos h2] at h; simp at h
  rw [if_neg h2] at h ⊢
  by_cases h3 : (l.getD 0 0).toNat % 128 = 0
  · rw [if_pos h3] at h; simp at h
  rw [if_neg h3] at h ⊢
  by_cases h4 : (numS l).2.2 = 0
  · have h4' : ¬ (numS l).2.2 ≠ 0 := by simpa using h4
    rw [if_neg h4'] at h ⊢
    by_cases h5 : 65536 < a + (numS l).2.1 + (numS l).1
    · rw [if_pos h5] at h; simp at h
    rw [if_neg h5] at h ⊢
    by_cases h6 : l.length < (numS l).2.1 + (numS l).1
    · rw [if_pos h6] at h; split at h <;> simp at h
    rw [if_neg h6]
    exact ⟨(numS l).1, (numS l).2.1, by rw [← h4], by omega, h2, h3, by omega, by omega, rfl⟩
  · rw [if_pos h4] at h
    simp only at h
    omega
theorem tag_back (t : UInt8) (h : t.toNat % 128 ≠ 0) : tagB (decide (128 ≤ t.toNat)) ((t.toNat % 128 : Nat) : Int) = t := by
  have hl := t.toNat_lt
  apply UInt8.toNat_inj.1
  unfold tagB
  by_cases h1 : 128 ≤ t.toNat
  · rw [decide_eq_true h1, if_pos rfl, toNat_of _ (by omega)]; omega
  · rw [decide_eq_false h1, if_neg (by simp), toNat_of _ (by omega)]; omega
theorem shpL_app : ∀ (l m : List S44) (d : Nat), shpL (l ++ m) d = (shpL l d && shpL m d)
  | [], m, d => by rw [shpL]; simp
  | x :: l, m, d => by rw [List.cons_append, shpL, shpL, shpL_app l m d, Bool.and_assoc]
/-- What a text begins with. -/
def OkAt (l : List UInt8) (d a : Nat) (x : S44) (m : Nat) : Prop := ∃ rest, l = wr x ++ rest ∧ m = (wr x).length ∧ shp x d = true ∧ a + m ≤ 65536
def FirstS (k : Nat) : Prop := ∀ (l : List UInt8) (d a : Nat) (n : Bool) (t : Int) (s : ByteArray) (xs : List S44) (m : Int), l.length ≤ 16000 → a ≤ 70000 →
  wire_reader_first.f k (d : Int) (a : Int) (baL l) = some (n, t, s, xs, m, 0) → ∃ mm : Nat, m = (mm : Int) ∧ OkAt l d a ⟨n, t, s, xs⟩ mm
def LoopS (k : Nat) : Prop := ∀ (l : List UInt8) (tt i d a : Nat) (t : Int) (acc : List S44) (n' : Bool) (t' : Int) (s' : ByteArray) (xs : List S44) (m : Int), l.length ≤ 16000 → tt ≤ l.length → i ≤ tt → a + tt ≤ 65536 → d ≤ 32 → shpL acc (d + 1) = true →
  wire_reader_first.l0 k (baL l) (tt : Int) (i : Int) (d : Int) (a : Int) true t ⟨#[]⟩ acc = some (n', t', s', xs, m, 0) → n' = true ∧ t' = t ∧ s' = ⟨#[]⟩ ∧ m = (tt : Int) ∧ shpL xs (d + 1) = true ∧ ∃ ys, xs = acc ++ ys ∧ wrL ys = (l.take tt).drop i
theorem sub_len (l : List UInt8) (tt i : Nat) (h : tt ≤ l.length) : ((l.take tt).drop i).length = tt - i := by simp; omega
theorem loop_sound (k : Nat) (hf : FirstS k) (hl0 : LoopS k) : LoopS (k + 1) := by
  intro l tt i d a t acc n' t' s' xs m hl hto hi ha hd hacc h
  have hz := baL_size l
  rw [wire_reader_first.l0] at h
  by_cases h1 : i < tt
  · have w1 : wrap64 ((d : Int) + 1) = ((d + 1 : Nat) : Int) := by unfold wrap64; omega
    have w2 : wrap64 ((a : Int) + (i : Int)) = ((a + i : Nat) : Int) := by unfold wrap64; omega
    rw [if_pos (by omega), if_pos (by omega), if_pos (by omega), if_pos (by omega), w1, w2, Int.toNat_natCast, Int.toNat_natCast, baL_ext] at h
    clear w1 w2
    obtain ⟨⟨b1, b2, b3, b4, b5, b6⟩, hc, h⟩ := Option.bind_eq_some_iff.1 h
    simp only at h
    by_cases h2 : b6 = 0
    · subst h2
      rw [if_pos rfl] at h
      have hsl := sub_len l tt i hto
      obtain ⟨mm, rfl, rest, e1, e2, e3, e4⟩ := hf ((l.take tt).drop i) (d + 1) (a + i) b1 b2 b3 b4 b5 (by omega) (by omega) hc
      rw [e1, List.length_append] at hsl
      by_cases h3 : acc.length < 2513169434916
      · have w3 : wrap64 ((i : Int) + (mm : Int)) = ((i + mm : Nat) : Int) := by unfold wrap64; omega
        rw [if_pos h3, w3] at h
        clear w3
        obtain ⟨q1, q2, q3, q4, q5, ys, q6, q7⟩ := hl0 l tt (i + mm) d a t (acc ++ [⟨b1, b2, b3, b4⟩]) n' t' s' xs m hl hto (by omega) ha hd (by rw [shpL_app, hacc, shpL, e3, shpL]; rfl) h
        refine ⟨q1, q2, q3, q4, q5, ⟨b1, b2, b3, b4⟩ :: ys, by rw [q6]; simp, ?_⟩
        rw [wrL, q7, ← List.drop_drop, e1, e2, List.drop_left]
      · rw [if_neg h3] at h
        exact absurd h (by simp)
    · rw [if_neg h2] at h
      by_cases h3 : b6 = 10
      · rw [if_pos h3] at h; simp at h
      · rw [if_neg h3] at h
        simp only [Option.some.injEq, Prod.mk.injEq] at h
        exact absurd h.2.2.2.2.2 h2
  · rw [if_neg (by omega)] at h
    simp only [Option.some.injEq, Prod.mk.injEq] at h
    obtain ⟨rfl, rfl, rfl, rfl, rfl, _⟩ := h
    refine ⟨rfl, rfl, rfl, rfl, hacc, [], by simp, ?_⟩
    rw [wrL, List.drop_eq_nil_of_le (by simp; omega)]
theorem first_step (k : Nat) (hl0 : LoopS k) (hk : 1 ≤ k) : FirstS (k + 1) := by
  intro l d a n t s xs m hl ha h
  rw [wire_reader_first.f, head_some l d a k (by omega) (by omega) hk, Option.bind_some] at h
  by_cases h0 : (hdV l d a).2.2.2.2.2.2 = 0
  · obtain ⟨N, i, e1, e2, e3, e4, e5, e6, e7⟩ := hd_ok l d a h0
    rw [e7] at h
    simp only at h
    rw [if_pos trivial] at h
    obtain ⟨t0, rest, r1, r2⟩ := numS_back l N i e1 (by omega)
    have hg : l.getD 0 0 = t0 := by rw [r1]; rfl
    rw [hg] at h e4
    have htl := t0.toNat_lt
    have htb := tag_back t0 e4
    have hln := lenL_len N
    have hlr : N ≤ rest.length := by rw [r1] at e6; simp at e6; omega
    have hbody : (l.take (i + N)).drop i = rest.take N := by
      rw [List.drop_take, r1, r2]
      have : (t0 :: (lenL N ++ rest)).drop (1 + (lenL N).length) = rest := by rw [Nat.add_comm, List.drop_succ_cons, List.drop_left]
      rw [this]
      congr 1
      omega
    have hbl : (rest.take N).length = N := by simp; omega
    have hwhole : l = t0 :: (lenL N ++ rest.take N) ++ rest.drop N := by rw [r1]; simp
    by_cases h1 : 128 ≤ t0.toNat
    · rw [decide_eq_true h1] at h htb
      simp only [if_true] at h
      obtain ⟨rfl, rfl, rfl, rfl, q5, ys, q6, q7⟩ := hl0 l (i + N) i d a _ [] n t s xs m hl e6 (by omega) (by omega) e2 (by rw [shpL]) h
      rw [List.nil_append] at q6
      subst q6
      rw [hbody] at q7
      have hwr : wr ⟨true, ((t0.toNat % 128 : Nat) : Int), ⟨#[]⟩, xs⟩ = t0 :: (lenL N ++ rest.take N) := by rw [wr, if_pos rfl, q7, hbl, htb]
      refine ⟨i + N, rfl, rest.drop N, by rw [hwr]; exact hwhole, by rw [hwr, List.length_cons, List.length_append, hbl]; omega, ?_, by omega⟩
      rw [shp, q5, decide_eq_true e2, decide_eq_true (show (1 : Int) ≤ ((t0.toNat % 128 : Nat) : Int) by omega), decide_eq_true (show ((t0.toNat % 128 : Nat) : Int) ≤ 127 by omega), if_pos rfl]
      rfl
    · rw [decide_eq_false h1] at h htb
      rw [if_neg (by simp), if_pos (by omega), if_pos (by omega), if_pos (by rw [baL_size]; omega), Int.toNat_natCast, Int.toNat_natCast, baL_ext, hbody] at h
      simp only [Option.some.injEq, Prod.mk.injEq] at h
      obtain ⟨rfl, rfl, rfl, rfl, rfl, _⟩ := h
      have hwr : wr ⟨false, ((t0.toNat % 128 : Nat) : Int), baL (rest.take N), []⟩ = t0 :: (lenL N ++ rest.take N) := by rw [wr, if_neg (by simp), baL_list, hbl, htb]
      refine ⟨i + N, rfl, rest.drop N, by rw [hwr]; exact hwhole, by rw [hwr, List.length_cons, List.length_append, hbl]; omega, ?_, by omega⟩
      rw [shp, shpL, decide_eq_true e2, decide_eq_true (show (1 : Int) ≤ ((t0.toNat % 128 : Nat) : Int) by omega), decide_eq_true (show ((t0.toNat % 128 : Nat) : Int) ≤ 127 by omega), if_neg (by simp)]
      rfl
  · rw [if_neg h0] at h
    simp only [Option.some.injEq, Prod.mk.injEq] at h
    exact absurd h.2.2.2.2.2 h0
theorem head_zero (d a : Int) (s : ByteArray) (b : Bool × Int × ByteArray × List S44 × Int × Int × Int) (h : wire_reader_head.f 0 d a s = some b) : ¬ b.2.2.2.2.2.2 = 0 := by
  unfold wire_reader_head.f at h
  split at h
  · cases h; simp
  split at h
  · cases h; simp
  split at h
  · split at h
    · cases h; simp
    · obtain ⟨q, _, h⟩ := Option.bind_eq_some_iff.1 h
      split at h
      · split at h
        · cases h; simp
        · split at h <;> (rw [wire_reader_head.j0] at h; cases h)
      · rename_i hne
        cases h
        exact hne
  · cases h
theorem sound_all : ∀ k, FirstS k ∧ LoopS k := by
  intro k
  induction k with
  | zero =>
    constructor
    · intro l d a n t s xs m _ _ h; rw [wire_reader_first.f] at h; exact absurd h (by simp)
    · intro l tt i d a t acc n' t' s' xs m _ _ _ _ _ _ h; rw [wire_reader_first.l0] at h; exact absurd h (by simp)
  | succ k ih =>
    refine ⟨?_, loop_sound k ih.1 ih.2⟩
    by_cases hk : 1 ≤ k
    · exact first_step k ih.2 hk
    · obtain rfl : k = 0 := by omega
      intro l d a n t s xs m hl ha h
      rw [wire_reader_first.f] at h
      obtain ⟨b, hb, h⟩ := Option.bind_eq_some_iff.1 h
      have hne := head_zero (d : Int) (a : Int) (baL l) b hb
      rw [if_neg hne] at h
      simp only [Option.some.injEq, Prod.mk.injEq] at h
      exact absurd h.2.2.2.2.2 hne
theorem first_sound (k : Nat) : FirstS k := (sound_all k).1
/-- The reader always ends. -/
theorem loop_total (l : List UInt8) (hl : l.length ≤ 16000) (tt : Nat) (htt : tt ≤ l.length) (ih : ∀ (m : List UInt8), m.length ≤ tt → m.length + 2 ≤ l.length → ∀ (d a k : Nat), d ≤ 33 → a ≤ 70000 → 2 * m.length + 5 ≤ k → ∃ r, wire_reader_first.f k (d : Int) (a : Int) (baL m) = some r) :
    ∀ (rem i d a k : Nat) (t : Int) (acc : List S44), i + rem = tt → 2 ≤ i → d ≤ 32 → a + tt ≤ 65536 → 2 * rem + 6 ≤ k → acc.length ≤ i → ∃ r, wire_reader_first.l0 k (baL l) (tt : Int) (i : Int) (d : Int) (a : Int) true t ⟨#[]⟩ acc = some r := by
  intro rem
  induction rem using Nat.strongRecOn with
  | _ rem ihr =>
    intro i d a k t acc hi h2 hd ha hk hacc
    obtain ⟨k, rfl⟩ : ∃ j, k = j + 1 := ⟨k - 1, by omega⟩
    have hz := baL_size l
    rw [wire_reader_first.l0]
    by_cases h1 : i < tt
    · have g1 : (i : Int) < (tt : Int) := by omega
      have g2 : (0 : Int) ≤ (i : Int) := by omega
      have g3 : (i : Int) ≤ (tt : Int) := by omega
      have g4 : (tt : Int) ≤ ((baL l).size : Int) := by omega
      have w1 : wrap64 ((d : Int) + 1) = ((d + 1 : Nat) : Int) := by unfold wrap64; omega
      have W1 := Aside0.mk w1
      clear w1
      have w2 : wrap64 ((a : Int) + (i : Int)) = ((a + i : Nat) : Int) := by unfold wrap64; omega
      have w1 := W1.out
      rw [if_pos g1, if_pos g2, if_pos g3, if_pos g4, w1, w2, Int.toNat_natCast, Int.toNat_natCast, baL_ext]
      clear w1 w2
      have hsl := sub_len l tt i htt
      obtain ⟨⟨b1, b2, b3, b4, b5, b6⟩, hb⟩ := ih ((l.take tt).drop i) (by omega) (by omega) (d + 1) (a + i) k (by omega) (by omega) (by omega)
      rw [hb, Option.bind_some]
      simp only
      by_cases h3 : b6 = 0
      · subst h3
        obtain ⟨mm, rfl, rest, e1, e2, e3, e4⟩ := first_sound k ((l.take tt).drop i) (d + 1) (a + i) b1 b2 b3 b4 b5 (by omega) (by omega) hb
        have hw := wr_two ⟨b1, b2, b3, b4⟩
        rw [e1, List.length_append, ← e2] at hsl
        rw [← e2] at hw
        clear e1 e2 hb
        have hacc2 : acc.length < 2513169434916 := by omega
        have w3 : wrap64 ((i : Int) + (mm : Int)) = ((i + mm : Nat) : Int) := by unfold wrap64; omega
        have W3 := Aside0.mk w3
        clear w3
        rw [if_pos rfl, if_pos hacc2, W3.out]
        exact ihr (rem - mm) (by omega) (i + mm) d a k t _ (by omega) (by omega) hd ha (by omega) (by simp; omega)
      · rw [if_neg h3]
        split
        · exact ⟨_, rfl⟩
        · exact ⟨_, rfl⟩
    · rw [if_neg (by omega)]
      exact ⟨_, rfl⟩
theorem first_total : ∀ (N : Nat) (l : List UInt8), l.length ≤ N → N ≤ 16000 → ∀ (d a k : Nat), d ≤ 33 → a ≤ 70000 → 2 * l.length + 5 ≤ k → ∃ r, wire_reader_first.f k (d : Int) (a : Int) (baL l) = some r := by
  intro N
  induction N using Nat.strongRecOn with
  | _ N ih =>
    intro l hl hN d a k hd ha hk
    obtain ⟨k, rfl⟩ : ∃ j, k = j + 1 := ⟨k - 1, by omega⟩
    rw [wire_reader_first.f, head_some l d a k (by omega) (by omega) (by omega), Option.bind_some]
    by_cases h0 : (hdV l d a).2.2.2.2.2.2 = 0
    · obtain ⟨n, i, e1, e2, e3, e4, e5, e6, e7⟩ := hd_ok l d a h0
      rw [e7]
      simp only
      obtain ⟨t0, rest, r1, r2⟩ := numS_back l n i e1 (by omega)
      have hln := lenL_len n
      rw [if_pos trivial]
      by_cases h1 : 128 ≤ (l.getD 0 0).toNat
      · rw [decide_eq_true h1]
        simp only [if_true]
        exact loop_total l (by omega) (i + n) e6 (fun m hm hm2 d' a' k' hd' ha' hk' => ih m.length (by omega) m (Nat.le_refl _) (by omega) d' a' k' hd' ha' hk') n i d a k _ [] rfl (by omega) e2 (by omega) (by omega) (by simp)
      · rw [decide_eq_false h1, if_neg (by simp), if_pos (by omega), if_pos (by omega), if_pos (by rw [baL_size]; omega)]
        exact ⟨_, rfl⟩
    · rw [if_neg h0]
      exact ⟨_, rfl⟩
/-- What is written is read. -/
theorem hd_wr (x : S44) (d a : Nat) (rest : List UInt8) (hs : shp x d = true) (hz : isz x ≤ 3000) (ha : a + (wr x).length ≤ 65536) :
    hdV (wr x ++ rest) d a = (x.f0, x.f1, (⟨#[]⟩ : ByteArray), ([] : List S44), (((wr x).length - (if x.f0 then (wrL x.f3).length else x.f2.data.toList.length) : Nat) : Int), ((wr x).length : Int), (0 : Int)) := by
  have ht := shp_tag x d hs
  have hw := wr_len x
  have hd : d ≤ 32 := by
    rw [shp_eq] at hs
    simp only [Bool.and_eq_true, decide_eq_true_eq] at hs
    exact hs.1.1.1.1
  obtain ⟨body, hb⟩ : ∃ body, body = if x.f0 then wrL x.f3 else x.f2.data.toList := ⟨_, rfl⟩
  have e0 : wr x = tagB x.f0 x.f1 :: (lenL body.length ++ body) := by rw [wr_eq, hb]; split <;> rfl
  have eb : (if x.f0 then (wrL x.f3).length else x.f2.data.toList.length) = body.length := by rw [hb]; split <;> rfl
  have hln := lenL_len body.length
  have hlw : (wr x).length = 1 + (lenL body.length).length + body.length := by rw [e0]; simp; omega
  rw [eb]
  have hnum : numS (wr x ++ rest) = (body.length, 1 + (lenL body.length).length, 0) := by
    rw [e0, List.cons_append, List.append_assoc]
    exact numS_len _ _ _ (by omega)
  have hg : (wr x ++ rest).getD 0 0 = tagB x.f0 x.f1 := by rw [e0]; rfl
  have htn : (tagB x.f0 x.f1).toNat = x.f1.toNat + if x.f0 then 128 else 0 := by
    unfold tagB
    rw [toNat_of]
    split <;> omega
  have hmod : ¬ (x.f1.toNat + if x.f0 then 128 else 0) % 128 = 0 := by cases x.f0 <;> simp <;> omega
  unfold hdV
  rw [hnum, hg, htn]
  have hlen : (wr x ++ rest).length = (wr x).length + rest.length := by simp
  rw [if_neg (by omega), if_neg (by intro q; have := congrArg List.length q; rw [hlen, List.length_nil] at this; omega), if_neg hmod, if_neg (by simp), if_neg (by simp only; omega), if_neg (by simp only; omega)]
  simp only
  have h1 : (wr x).length - body.length = 1 + (lenL body.length).length := by omega
  have h2 : 1 + (lenL body.length).length + body.length = (wr x).length := by omega
  rw [h1, h2]
  cases hx : x.f0 with
  | true =>
    simp only [if_true]
    rw [decide_eq_true (by omega)]
    congr 2
    omega
  | false =>
    simp only [Bool.false_eq_true, if_false]
    rw [decide_eq_false (by omega)]
    congr 2
    omega
def FirstC (x : S44) : Prop := ∀ (d a k : Nat) (rest : List UInt8), shp x d = true → a + (wr x).length ≤ 65536 → rest.length ≤ 900000 → 8 * isz x ≤ k → wire_reader_first.f k (d : Int) (a : Int) (baL (wr x ++ rest)) = some (x.f0, x.f1, x.f2, x.f3, ((wr x).length : Int), 0)
theorem loop_comp (l : List UInt8) (tt d a : Nat) (hl : l.length ≤ 1000000) (htt : tt ≤ l.length) (hd : d ≤ 32) (ha : a + tt ≤ 65536) (t : Int) : ∀ (ys : List S44) (i k : Nat) (acc : List S44), (∀ y ∈ ys, FirstC y) → shpL ys (d + 1) = true → (l.take tt).drop i = wrL ys → i ≤ tt → acc.length + ys.length ≤ 100000 → 8 * iszL ys + 1 ≤ k →
    wire_reader_first.l0 k (baL l) (tt : Int) (i : Int) (d : Int) (a : Int) true t ⟨#[]⟩ acc = some (true, t, ⟨#[]⟩, acc ++ ys, (tt : Int), 0) := by
  intro ys
  induction ys with
  | nil =>
    intro i k acc _ _ hw hi _ hk
    obtain ⟨k, rfl⟩ : ∃ j, k = j + 1 := ⟨k - 1, by omega⟩
    have hsl := sub_len l tt i htt
    rw [hw, wrL] at hsl
    simp at hsl
    rw [wire_reader_first.l0, if_neg (by omega), List.append_nil]
  | cons y ys ih =>
    intro i k acc hy hs hw hi hacc hk
    obtain ⟨k, rfl⟩ : ∃ j, k = j + 1 := ⟨k - 1, by omega⟩
    have hsl := sub_len l tt i htt
    rw [iszL] at hk
    rw [shpL] at hs
    simp only [Bool.and_eq_true] at hs
    rw [wrL] at hw
    have hwl := wr_two y
    have hp := isz_pos y
    rw [hw, List.length_append] at hsl
    have hz := baL_size l
    have w1 : wrap64 ((d : Int) + 1) = ((d + 1 : Nat) : Int) := by unfold wrap64; omega
    have w2 : wrap64 ((a : Int) + (i : Int)) = ((a + i : Nat) : Int) := by unfold wrap64; omega
    have w3 : wrap64 ((i : Int) + ((wr y).length : Int)) = ((i + (wr y).length : Nat) : Int) := by unfold wrap64; omega
    have W3 := Aside0.mk w3
    clear w3
    simp only [List.length_cons] at hacc
    rw [wire_reader_first.l0, if_pos (by omega), if_pos (by omega), if_pos (by omega), if_pos (by omega), w1, w2, Int.toNat_natCast, Int.toNat_natCast, baL_ext, hw]
    clear w1 w2
    rw [hy y (by simp) (d + 1) (a + i) k (wrL ys) hs.1 (by omega) (by omega) (by omega), Option.bind_some]
    simp only
    rw [if_pos trivial, if_pos (by omega), W3.out, ih (i + (wr y).length) k _ (fun z hz => hy z (by simp [hz])) hs.2 (by rw [← List.drop_drop, hw, List.drop_left]) (by omega) (by simp; omega) (by omega)]
    have hye : (⟨y.f0, y.f1, y.f2, y.f3⟩ : S44) = y := by cases y; rfl
    rw [hye]
    simp
theorem comp_all : ∀ (N : Nat) (x : S44), isz x ≤ N → N ≤ 3000 → FirstC x := by
  intro N
  induction N with
  | zero => intro x hx; have := isz_pos x; omega
  | succ N ih =>
    intro x hx hN d a k rest hs ha hr hk
    have hp := isz_pos x
    have hz := isz_eq x
    have hw := wr_len x
    have hsz := shp_eq x d
    rw [hs] at hsz
    have hd : d ≤ 32 := by
      have h' := hs
      rw [shp_eq] at h'
      simp only [Bool.and_eq_true, decide_eq_true_eq] at h'
      exact h'.1.1.1.1
    have hl : (wr x ++ rest).length = (wr x).length + rest.length := by simp
    obtain ⟨k, rfl⟩ : ∃ j, k = j + 1 := ⟨k - 1, by omega⟩
    rw [wire_reader_first.f, head_some _ d a k (by omega) (by omega) (by omega), Option.bind_some, hd_wr x d a rest hs (by omega) ha]
    simp only
    rw [if_pos trivial]
    have e0 := wr_eq x
    cases hn : x.f0 with
    | true =>
      rw [hn] at e0 hsz
      simp only [if_true] at e0 hsz ⊢
      have hsz2 := hsz.symm
      simp only [Bool.and_eq_true, decide_eq_true_eq] at hsz2
      have hf2 : x.f2 = ⟨#[]⟩ := ba_ext2 (List.eq_nil_of_length_eq_zero (by simpa using hsz2.1.2))
      have hwl : (wr x).length = 1 + (lenL (wrL x.f3).length).length + (wrL x.f3).length := by rw [e0]; simp; omega
      have hxl := iszL_len x.f3
      have hbody : ((wr x ++ rest).take (wr x).length).drop ((wr x).length - (wrL x.f3).length) = wrL x.f3 := by
        rw [List.take_left, hwl]
        have : 1 + (lenL (wrL x.f3).length).length + (wrL x.f3).length - (wrL x.f3).length = (lenL (wrL x.f3).length).length + 1 := by omega
        rw [this, e0, List.drop_succ_cons, List.drop_left]
      rw [loop_comp (wr x ++ rest) (wr x).length d a (by omega) (by omega) hd (by omega) x.f1 x.f3 ((wr x).length - (wrL x.f3).length) k [] (fun y hy => ih y (by have := iszL_mem x.f3 y hy; omega) (by omega)) hsz2.2 hbody (by omega) (by simp; omega) (by omega), List.nil_append, ← hf2]
    | false =>
      rw [hn] at e0 hsz
      simp only [Bool.false_eq_true, if_false] at e0 hsz ⊢
      have hsz2 := hsz.symm
      simp only [Bool.and_eq_true, decide_eq_true_eq, List.isEmpty_iff] at hsz2
      have hwl : (wr x).length = 1 + (lenL x.f2.data.toList.length).length + x.f2.data.toList.length := by rw [e0]; simp; omega
      have hbody : ((wr x ++ rest).take (wr x).length).drop ((wr x).length - x.f2.data.toList.length) = x.f2.data.toList := by
        rw [List.take_left, hwl]
        have : 1 + (lenL x.f2.data.toList.length).length + x.f2.data.toList.length - x.f2.data.toList.length = (lenL x.f2.data.toList.length).length + 1 := by omega
        rw [this, e0, List.drop_succ_cons, List.drop_left]
      rw [if_pos (by omega), if_pos (by omega), if_pos (by rw [baL_size]; omega), Int.toNat_natCast, Int.toNat_natCast, baL_ext, hbody, ← baL_of, hsz2.1.2]
end Go.Proofs.Ytkgijkfcmbpgpaa.Giv
end

section
namespace Go.Proofs.Ytkgijkfcmbpgpaa.Giv
open Go.RowKit Go.Proofs.YtkgijkfcmbpgpaaW.PrintWords Go.Proofs.YtkgijkfcmbpgpaaW.PrintLast Go.Proofs.YtkgijkfcmbpgpaaW.PrintMore Go.Proofs.Ytkgijkfcmbpgpaa.PWir
set_option linter.unusedVariables false
set_option linter.unusedSimpArgs false
mutual
theorem sameB_refl : ∀ x : S44, sameB x x = true
  | ⟨n, t, s, l⟩ => by rw [sameB, sameL_refl l]; simp
theorem sameL_refl : ∀ l : List S44, sameL l l = true
  | [] => by rw [sameL]
  | x :: r => by rw [sameL, sameB_refl x, sameL_refl r]; rfl
end
mutual
theorem sameB_eq : ∀ x y : S44, sameB x y = true → x = y
  | ⟨n, t, s, l⟩, ⟨m, u, r, k⟩, h => by
    rw [sameB] at h
    simp only [Bool.and_eq_true, beq_iff_eq, decide_eq_true_eq] at h
    obtain ⟨⟨⟨h1, h2⟩, h3⟩, h4⟩ := h
    rw [h1, h2, ba_ext2 h3, sameL_eq l k h4]
theorem sameL_eq : ∀ l k : List S44, sameL l k = true → l = k
  | [], [], _ => rfl
  | x :: l, y :: k, h => by
    rw [sameL] at h
    simp only [Bool.and_eq_true] at h
    rw [sameB_eq x y h.1, sameL_eq l k h.2]
  | [], _ :: _, h => by rw [sameL] at h; exact absurd h (by simp)
  | _ :: _, [], h => by rw [sameL] at h; exact absurd h (by simp)
end
theorem sameB_iff (x y : S44) : sameB x y = true ↔ x = y := ⟨sameB_eq x y, fun h => by rw [h]; exact sameB_refl y⟩
theorem eta44 (x : S44) : (⟨x.f0, x.f1, x.f2, x.f3⟩ : S44) = x := by cases x; rfl
theorem same_some (x y : S44) (hz : isz x ≤ 100000000) : wire_Same.f x.f0 x.f1 x.f2 x.f3 y.f0 y.f1 y.f2 y.f3 = some (sameB x y) := by
  unfold wire_Same.f
  rw [eta44, eta44, if_pos hz]
theorem put_some (x : S44) (hz : isz x ≤ 3000) : wire_Put.f x.f0 x.f1 x.f2 x.f3 = some (if shp x 0 = true then (baL (wr x), 0) else (⟨#[]⟩, 1)) := by
  unfold wire_Put.f
  rw [eta44, if_pos hz]
  split <;> rfl
theorem First_some (x : S44) (rest : List UInt8) (hs : shp x 0 = true) (hz : isz x ≤ 3000) (hr : rest.length ≤ 900000) (k : Nat) (hk : 24000 ≤ k) : wire_First.f k (baL (wr x ++ rest)) = some (x.f0, x.f1, x.f2, x.f3, ((wr x).length : Int), 0) := by
  have hw := wr_len x
  have h := comp_all 3000 x hz (by omega) 0 0 k rest hs (by omega) hr (by omega)
  have h' : wire_reader_first.f k 0 0 (baL (wr x ++ rest)) = _ := h
  unfold wire_First.f
  rw [h', Option.bind_some]
theorem get_some (x : S44) (hs : shp x 0 = true) (hz : isz x ≤ 3000) (k : Nat) (hk : 24000 ≤ k) : wire_Get.f k (baL (wr x)) = some (x.f0, x.f1, x.f2, x.f3, 0) := by
  have h := First_some x [] hs hz (by simp) k hk
  rw [List.append_nil] at h
  unfold wire_Get.f
  rw [h, Option.bind_some]
  simp only
  rw [if_pos trivial, if_neg (by rw [baL_size]; omega)]
theorem First_sound (l : List UInt8) (hl : l.length ≤ 16000) (k : Nat) (n : Bool) (t : Int) (s : ByteArray) (xs : List S44) (m : Int) (h : wire_First.f k (baL l) = some (n, t, s, xs, m, 0)) : ∃ rest, l = wr ⟨n, t, s, xs⟩ ++ rest ∧ m = ((wr ⟨n, t, s, xs⟩).length : Int) ∧ shp ⟨n, t, s, xs⟩ 0 = true := by
  unfold wire_First.f at h
  obtain ⟨⟨b1, b2, b3, b4, b5, b6⟩, hb, h⟩ := Option.bind_eq_some_iff.1 h
  simp only [Option.some.injEq, Prod.mk.injEq] at h
  obtain ⟨rfl, rfl, rfl, rfl, rfl, rfl⟩ := h
  obtain ⟨mm, e, rest, e1, e2, e3, _⟩ := first_sound k l 0 0 b1 b2 b3 b4 b5 hl (by omega) hb
  exact ⟨rest, e1, by rw [e, e2], e3⟩
theorem get_sound (l : List UInt8) (hl : l.length ≤ 16000) (k : Nat) (n : Bool) (t : Int) (s : ByteArray) (xs : List S44) (h : wire_Get.f k (baL l) = some (n, t, s, xs, 0)) : l = wr ⟨n, t, s, xs⟩ ∧ shp ⟨n, t, s, xs⟩ 0 = true := by
  unfold wire_Get.f at h
  obtain ⟨⟨b1, b2, b3, b4, b5, b6⟩, hb, h⟩ := Option.bind_eq_some_iff.1 h
  simp only at h
  by_cases h6 : b6 = 0
  · subst h6
    obtain ⟨rest, e1, e2, e3⟩ := First_sound l hl k b1 b2 b3 b4 b5 hb
    rw [if_pos rfl] at h
    by_cases h7 : b5 < ((baL l).size : Int)
    · rw [if_pos h7] at h
      simp at h
    · rw [if_neg h7] at h
      simp only [Option.some.injEq, Prod.mk.injEq] at h
      obtain ⟨rfl, rfl, rfl, rfl, _⟩ := h
      rw [baL_size, e2] at h7
      have hl2 := congrArg List.length e1
      rw [List.length_append] at hl2
      have hr : rest = [] := List.eq_nil_of_length_eq_zero (by omega)
      rw [hr, List.append_nil] at e1
      exact ⟨e1, e3⟩
  · rw [if_neg h6] at h
    simp only [Option.some.injEq, Prod.mk.injEq] at h
    exact absurd h.2.2.2.2 h6
theorem get_total (l : List UInt8) (hl : l.length ≤ 16000) (k : Nat) (hk : 40000 ≤ k) : ∃ n t s xs e, wire_Get.f k (baL l) = some (n, t, s, xs, e) := by
  obtain ⟨⟨b1, b2, b3, b4, b5, b6⟩, hb⟩ := first_total 16000 l hl (by omega) 0 0 k (by omega) (by omega) (by omega)
  have hb' : wire_reader_first.f k 0 0 (baL l) = _ := hb
  unfold wire_Get.f wire_First.f
  rw [hb', Option.bind_some, Option.bind_some]
  simp only
  split
  · split
    · exact ⟨_, _, _, _, _, rfl⟩
    · exact ⟨_, _, _, _, _, rfl⟩
  · exact ⟨_, _, _, _, _, rfl⟩
def exI : S44 := ⟨false, 1, ⟨#[104, 105]⟩, []⟩
def exT : S44 := ⟨true, 2, ⟨#[]⟩, [exI]⟩
theorem exT_isz : isz exT = 4 := by simp [exT, isz, iszL, exI]; rfl
theorem exT_shp : shp exT 0 = true := by simp [exT, shp, shpL, exI]; rfl
theorem exT_wr : wr exT = [130, 4, 1, 2, 104, 105] := by simp only [exT, wr, wrL, exI]; decide +kernel
theorem works01 (k : Nat) (hk : 24000 ≤ k) : legatelaw01_works.f k = some true := by
  have hz := exT_isz
  have hz0 : isz z44 ≤ 3000 := by rw [z44, isz, iszL]; decide
  have hp := put_some exT (by omega)
  rw [if_pos exT_shp] at hp
  have hg := get_some exT exT_shp (by omega) k hk
  have hf := First_some exT [122] exT_shp (by omega) (by simp) k hk
  have hs := same_some exT exT (by omega)
  rw [sameB_refl] at hs
  have hv := valid_some exT (by omega) k hk
  rw [exT_shp] at hv
  have hv0 := valid_some z44 hz0 k hk
  have hs0 : shp z44 0 = false := by rw [z44, shp]; simp
  rw [hs0] at hv0
  have e1 : wire_Put.f true 2 (⟨#[]⟩ : ByteArray) [exI] = _ := hp
  have e2 : ∀ y, y = exT → wire_Same.f true 2 (⟨#[]⟩ : ByteArray) [exI] y.f0 y.f1 y.f2 y.f3 = some true := fun y hy => by rw [hy]; exact hs
  have e3 : wire_Valid.f k true 2 (⟨#[]⟩ : ByteArray) [exI] = some true := hv
  have e4 : wire_Valid.f k false 0 (⟨#[]⟩ : ByteArray) ([] : List S44) = some false := hv0
  have e5 : baL (wr exT) ++ (⟨#[122]⟩ : ByteArray) = baL (wr exT ++ [122]) := baL_app (wr exT) [122]
  have hlen : (wr exT).length = 6 := by rw [exT_wr]; rfl
  unfold legatelaw01_works.f
  rw [Option.bind_some]
  show ((wire_Put.f true 2 (⟨#[]⟩ : ByteArray) [exI]).bind fun bt299 => _) = some true
  rw [e1, Option.bind_some]
  show ((wire_Get.f k (baL (wr exT))).bind fun bt301 => _) = some true
  rw [hg, Option.bind_some]
  show ((wire_Same.f true 2 (⟨#[]⟩ : ByteArray) [exI] exT.f0 exT.f1 exT.f2 exT.f3).bind fun t309 => _) = some true
  rw [e2 exT rfl, Option.bind_some]
  show (if (baL (wr exT)).size + 1 ≤ 9223372036854775807 then ((wire_First.f k (baL (wr exT) ++ (⟨#[122]⟩ : ByteArray))).bind fun bt310 => _) else none) = some true
  rw [if_pos (by rw [baL_size, hlen]; omega), e5, hf, Option.bind_some]
  show (if (baL (wr exT)).toList = ([130, 4, 1, 2, 104, 105] : List UInt8) then (if (0 : Int) = 0 then (if (0 : Int) = 0 then (if true = true then (if ((wr exT).length : Int) = 6 then (if (0 : Int) = 0 then ((wire_Valid.f k true 2 (⟨#[]⟩ : ByteArray) [exI]).bind fun t319 => (if t319 = true then ((wire_Valid.f k false 0 (⟨#[]⟩ : ByteArray) ([] : List (S44))).bind fun t320 => (some (!t320))) else (some false))) else (some false)) else (some false)) else (some false)) else (some false)) else (some false)) else (some false)) = some true
  rw [if_pos (by rw [baL_toList, exT_wr]), if_pos rfl, if_pos rfl, if_pos rfl, if_pos (by rw [hlen]; rfl), if_pos rfl, e3, Option.bind_some, if_pos rfl, e4, Option.bind_some]
  rfl
mutual
theorem isz_wr : ∀ (x : S44) (d : Nat), shp x d = true → isz x ≤ (wr x).length
  | ⟨n, t, s, l⟩, d, h => by
    have h2 := lenL_len (wrL l).length
    have h3 := lenL_len s.data.toList.length
    have h4 : s.data.toList.length = s.size := by simp
    rw [shp] at h
    simp only [Bool.and_eq_true] at h
    have h1 := isz_wrL l (d + 1) h.2
    have h5 := h.1.2
    rw [isz, wr]
    cases n with
    | true =>
      simp only [if_true, decide_eq_true_eq] at h5 ⊢
      simp only [List.length_cons, List.length_append]
      omega
    | false =>
      simp only [Bool.false_eq_true, if_false, List.isEmpty_iff] at h5 ⊢
      simp only [List.length_cons, List.length_append, h5, iszL]
      omega
theorem isz_wrL : ∀ (l : List S44) (d : Nat), shpL l d = true → iszL l ≤ (wrL l).length
  | [], d, h => by rw [iszL]; exact Nat.zero_le _
  | x :: r, d, h => by
    rw [shpL] at h
    simp only [Bool.and_eq_true] at h
    have h1 := isz_wr x d h.1
    have h2 := isz_wrL r d h.2
    rw [iszL, wrL, List.length_append]
    omega
end
end Go.Proofs.Ytkgijkfcmbpgpaa.Giv
end

section
namespace Go.Proofs.Ytkgijkfcmbpgpaa.Pure
open Go.RowKit Go.Proofs.Ytkgijkfcmbpgpaa.PWir Go.Proofs.YtkgijkfcmbpgpaaW.PrintWords Go.Proofs.YtkgijkfcmbpgpaaW.PrintLast
open Go.Proofs.Ytkgijkfcmbpgpaa.Giv
set_option linter.unusedVariables false
set_option linter.unusedSimpArgs false

theorem toList_iff2 (a b : ByteArray) : a.toList = b.toList ↔ a = b := ⟨ba_toList_inj, fun h => by rw [h]⟩
theorem one_out (k : Nat) (s t : ByteArray) : legatelaw01_WireOne.j0 (k + 1) s t true true = some true := by
  rw [legatelaw01_WireOne.j0, if_pos rfl]
theorem one_in (k : Nat) (hk : 40000 ≤ k) (s t : ByteArray) (hs : s.size ≤ 2000) (ht : t.size ≤ 2000) : legatelaw01_WireOne.j0 (k + 1 + 1) s t true false = some true := by
  have hsl : s.data.toList.length = s.size := by simp
  have htl : t.data.toList.length = t.size := by simp
  obtain ⟨n1, t1, s1, x1, e1, hg1⟩ := get_total s.data.toList (by omega) (k + 1) (by omega)
  obtain ⟨n2, t2, s2, x2, e2, hg2⟩ := get_total t.data.toList (by omega) (k + 1) (by omega)
  rw [← baL_of] at hg1 hg2
  rw [legatelaw01_WireOne.j0, if_neg (by simp), hg1, Option.bind_some, hg2, Option.bind_some]
  show (if e1 = 0 then ((wire_Put.f n1 t1 s1 x1).bind fun bt421 => _) else some true) = some true
  by_cases h1 : e1 = 0
  · subst h1
    rw [baL_of s] at hg1
    obtain ⟨w1, q1⟩ := get_sound s.data.toList (by omega) (k + 1) n1 t1 s1 x1 hg1
    have hz1 := isz_wr ⟨n1, t1, s1, x1⟩ 0 q1
    rw [← w1, hsl] at hz1
    have hp := put_some ⟨n1, t1, s1, x1⟩ (by omega)
    rw [if_pos q1, ← w1, ← baL_of] at hp
    have hp' : wire_Put.f n1 t1 s1 x1 = some (s, 0) := hp
    have hv : wire_Valid.f (k + 1) n1 t1 s1 x1 = some (shp ⟨n1, t1, s1, x1⟩ 0) := valid_some ⟨n1, t1, s1, x1⟩ (by omega) (k + 1) (by omega)
    rw [if_pos rfl, hp', Option.bind_some]
    show (if s.toList = s.toList then (if (0 : Int) = 0 then ((wire_Valid.f (k + 1) n1 t1 s1 x1).bind fun t423 => (legatelaw01_WireOne.j1 (k + 1) s t true 0 e2 (!t423) n1 t1 s1 x1 n2 t2 s2 x2)) else _) else _) = some true
    rw [if_pos rfl, if_pos rfl, hv, Option.bind_some, q1, legatelaw01_WireOne.j1, if_neg (by simp), if_pos rfl]
    by_cases h2 : e2 = 0
    · subst h2
      rw [baL_of t] at hg2
      obtain ⟨w2, q2⟩ := get_sound t.data.toList (by omega) (k + 1) n2 t2 s2 x2 hg2
      have hse : wire_Same.f n1 t1 s1 x1 n2 t2 s2 x2 = some (sameB ⟨n1, t1, s1, x1⟩ ⟨n2, t2, s2, x2⟩) := same_some ⟨n1, t1, s1, x1⟩ ⟨n2, t2, s2, x2⟩ (by omega)
      rw [if_pos rfl, if_pos rfl, hse, Option.bind_some]
      congr 1
      have hiff : sameB ⟨n1, t1, s1, x1⟩ ⟨n2, t2, s2, x2⟩ = (s.toList == t.toList) := by
        rw [Bool.eq_iff_iff, sameB_iff, beq_iff_eq, toList_iff2]
        constructor
        · intro h
          rw [baL_of s, baL_of t, w1, w2, h]
        · intro h
          subst h
          rw [← baL_of s] at hg1 hg2
          rw [hg1] at hg2
          simp only [Option.some.injEq, Prod.mk.injEq] at hg2
          obtain ⟨rfl, rfl, rfl, rfl, _⟩ := hg2
          rfl
      rw [hiff]
      simp
    · rw [if_neg h2]
  · rw [if_neg h1]
theorem WireOne : legatelaw01_WireOne.Pure := by
  intro s t _ _
  refine ⟨40000 + 1 + 1, ?_⟩
  generalize hk : 40000 = k
  unfold legatelaw01_WireOne.f
  rw [works01 _ (by omega), Option.bind_some, if_pos rfl]
  by_cases h1 : (s.size : Int) > 2000
  · rw [if_pos h1]; exact one_out (k + 1) s t
  rw [if_neg h1]
  by_cases h2 : (t.size : Int) > 2000
  · rw [decide_eq_true h2]; exact one_out (k + 1) s t
  · rw [decide_eq_false h2]; exact one_in k (by omega) s t (by omega) (by omega)

end Go.Proofs.Ytkgijkfcmbpgpaa.Pure
end
