/- strings.Builder: the library's contracts, at this seat's numbers. -/
import Derived.Test.YtkgijkfcmbpgpaaGBase
import Derived.Shelf.Strings.Builder1
import Derived.Shelf.Strings.BuilderF
import Derived.Shelf.Strings.BuilderK
import Derived.KernelRfl
import Derived.RangeFuncCalls
import Derived.RangeFuncOwn
namespace Go.Proofs.Ytkgijkfcmbpgpaa.Giv
open Go.RowKit Go.Shelf Go.Proofs
set_option linter.unusedVariables false
set_option linter.unusedSimpArgs false
def bRen : Ren where
  f n := if n = 166 then 51 else if n = 170 then 52 else if n = 169 then 53 else if n = 240 then 63 else if n = 276 then 69 else n
  t n := if n = 37 then 27 else if n = 70 then 66 else if n = 72 then 68 else if n = 75 then 72 else if n = 80 then 76 else if n = 127 then 88 else if n = 164 then 95 else n
  g n := n
theorem bLays170 : Lays.n170 Try.prog bRen := by
  constructor <;> first | (intro w; kernel_rfl) | kernel_rfl
theorem bLays169 : Lays.n169 Try.prog bRen := by
  constructor <;> first | (intro w; kernel_rfl) | kernel_rfl
theorem bLays166 : Lays.n166 Try.prog bRen := by
  constructor <;> first | (intro w; kernel_rfl) | kernel_rfl
theorem bX72 : Builder.X72 Try.prog bRen := by
  constructor <;> kernel_rfl
theorem bExtra : Builder.Extra Try.prog bRen := by
  refine { toX72 := bX72, t5 := ?_, a5 := ?_, z5 := ?_, v5 := ?_, infoByte := ?_, cellsByte := ?_, sizeByte := ?_, neB5 := by decide } <;> first | (intro w; kernel_rfl) | kernel_rfl
theorem b_len (B b : Nat) (bs : List Value) (w : World) (h : Lib.IsBuilderF 68 5 B b bs w) :
    Calls Try.prog 52 #[.pointer (some ⟨b, 0, none⟩)] w fun e w' => e = .returned (.int .i64 bs.length) ∧ w' = w :=
  Any.Builder_Len_f bLays170 B b bs w h
/-- What a write keeps: all blocks but the builder's and its row's; whatever is no row of bytes lies as it lay. -/
def KeptB (b : Nat) (w w' : World) : Prop := KeepsOthers w w' ∧ ∀ (k : Nat) (c : Array Value) (T : TypeId) (fz : Nat × Nat), k ≠ b → T ≠ 5 → w.heap[k]? = some (.cells c T fz) → w'.heap[k]? = some (.cells c T fz)
theorem b_check (B b : Nat) (bs : List Value) (w : World) (h : Lib.IsBuilderF 68 5 B b bs w) :
    Calls Try.prog 63 #[.pointer (some ⟨b, 0, none⟩)] w fun e w' => e = .returned (.tuple #[]) ∧ Lib.BuilderAtF 68 5 B b (.pointer (some ⟨b, 0, none⟩)) bs w' ∧ Below B w w' ∧ KeptB b w w' ∧ w.heap.size ≤ w'.heap.size := by
  have L : Lays.n240 Try.prog bRen := { bLays166 with }
  rcases h with h | h
  · refine (Any.Builder_copyCheck_fresh L bX72 b w h.cell0 h.shape h.frozen0).mono ?_
    rintro e w' ⟨rfl, rfl⟩
    exact ⟨rfl, h.used _, (Below.refl B w).setCell (p := ⟨b, 0, none⟩) h.1 _, ⟨KeepsOthers.setCell _ _ _, fun k c T fz hk hT hc => (heap_setCell_other w ⟨b, 0, none⟩ k _ (fun e => hk e)).trans hc⟩, by simp⟩
  · refine (Any.Builder_copyCheck_used L bX72 b w h.cell0).mono ?_
    rintro e w' ⟨rfl, rfl⟩
    exact ⟨rfl, h, Below.refl B _, ⟨KeepsOthers.refl _, fun k c T fz _ _ hc => hc⟩, Nat.le_refl _⟩
set_option maxHeartbeats 2000000 in
set_option maxRecDepth 100000 in
/-- A write, and what it keeps. -/
theorem b_write2 (B b : Nat) (bs : List Value) (s : ByteArray) (w : World) (h : Lib.IsBuilderF 68 5 B b bs w) (hl : bs.length + s.size ≤ 140737488351232) (hB : B ≤ w.heap.size) :
    Calls Try.prog 51 #[.pointer (some ⟨b, 0, none⟩), .string s] w fun e w' => e = .returned (.tuple #[.int .i64 s.size, .nilIface]) ∧ Lib.BuilderAtF 68 5 B b (.pointer (some ⟨b, 0, none⟩)) (bs ++ Lib.strCells s) w' ∧ Below B w w' ∧ KeptB b w w' ∧ w.heap.size ≤ w'.heap.size := by
  obtain ⟨i0, hi, hz0, hz1, hz2⟩ := info_parts bExtra.infoByte
  go_enter Try.func51, Try.ntmps51
  go_wp2_with (go_at_call 63; refine (b_check B b bs _ h).mono ?_)
  rintro e w1 ⟨rfl, h1, hb1, hk1, hs1⟩
  obtain ⟨hBb, v, hbk, hown, hne⟩ := h1
  have c1 : w1.cell? ⟨b, 1, none⟩ = some v := by rw [Lib.cell_of_heap hbk]; rfl
  go_wp2_with (at_builtin; refine Lib.wpList_append_own_stringF _ rfl _ _ 27 9 rfl B 5 i0 Try.underlying27 Try.underlying9 hi hz0 hz1 hz2 _ _ _ rfl hown s rfl ?c3 ?c4 ?c5 ?_)
  case c3 => unfold maxLen; omega
  case c4 => omega
  case c5 => omega
  intro v' w2 hown' hgrow _
  have hlt : b < w1.heap.size := (Array.getElem?_eq_some_iff.1 hbk).1
  have hb2 : w2.heap[b]? = some (.cells #[.pointer (some ⟨b, 0, none⟩), v] 68 (0, 0)) := (hgrow.block b hlt (fun e => hne e.symm)).trans hbk
  have d1 : w2.cell? ⟨b, 1, none⟩ = some v := by rw [Lib.cell_of_heap hb2]; rfl
  have f1 : w2.frozen? ⟨b, 1, none⟩ = false := Lib.frozen_of_heap hb2 1
  have hrow : ∀ (j : Nat) (o : Obj), v.ownBlock = some j → w1.heap[j]? = some o → ∃ c fz, o = .cells c 5 fz := by
    intro j o hj ho
    rcases hown.2 with ⟨hv, _⟩ | ⟨g, cap, cur, fz, hv, _, hg, _⟩
    · rw [hv] at hj; cases hj
    · rw [hv] at hj
      obtain rfl : g = j := Option.some.inj hj
      rw [hg] at ho
      exact ⟨_, _, (Option.some.inj ho).symm⟩
  obtain ⟨ao, n', cap, rfl⟩ : ∃ ao n' cap, v' = .slice ao n' cap := by
    rcases hown'.2 with ⟨hv, _⟩ | ⟨g, cap, cur, fz, hv, _⟩
    · exact ⟨_, _, _, hv⟩
    · exact ⟨_, _, _, hv⟩
  have hz := hgrow.size
  go_wp2
  go_ret2
  refine ⟨rfl, Lib.BuilderAtF.put (T := 68) (e := 5) hBb hb2 (bs' := bs ++ Lib.strCells s) (by simpa [Lib.strCells_length] using hown') bExtra.neB5, (hb1.grown hgrow (by omega) (fun k hk => (hown.lt k hk).1)).setCell (p := ⟨b, 1, none⟩) hBb _, ⟨?_, ?_⟩, ?_⟩
  · refine (hk1.1.trans (KeepsOthers.of_grownBy hgrow fun j o hj ho => ?_)).trans (KeepsOthers.setCell _ _ _)
    obtain ⟨c, fz, rfl⟩ := hrow j o hj ho
    rfl
  · intro k c T fz hk hT hc
    have h1 := hk1.2 k c T fz hk hT hc
    refine (heap_setCell_other w2 ⟨b, 1, none⟩ k _ (fun e => hk e)).trans ((hgrow.block k (Array.getElem?_eq_some_iff.1 h1).1 (fun e => ?_)).trans h1)
    obtain ⟨c', fz', e'⟩ := hrow k _ e.symm h1
    cases e'
    exact hT rfl
  · simp; omega
/-- A read, and what it keeps. -/
theorem b_string2 (B b : Nat) (l : List UInt8) (w : World) (h : Lib.IsBuilderF 68 5 B b (Lib.byteCells l) w) (h0 : l ≠ []) :
    Calls Try.prog 53 #[.pointer (some ⟨b, 0, none⟩)] w fun e w' => e = .returned (.string ⟨l.toArray⟩) ∧ Below B w w' ∧ Lib.OthersKept 5 (some b) w w' :=
  (Any.Builder_String_k bLays169 bExtra B b l w h h0).mono fun e w' ⟨h1, _, h2, h3⟩ => ⟨h1, h2, h3⟩
end Go.Proofs.Ytkgijkfcmbpgpaa.Giv
