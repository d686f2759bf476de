/- Joined by wip/pack.py out of: PWirx0, MWire0, GWireB; what nothing here names is left out. -/
import Derived.ArgAppend
import Derived.Below
import Derived.BigQuiet
import Derived.Deep.AppendLies
import Derived.Deep.CutBlock
import Derived.Deep.DeepCutAuto
import Derived.Deep.Draws
import Derived.Deep.LoopGhost
import Derived.Deep.OwnRows
import Derived.Deep.QuietTactic
import Derived.Deep.RegionHeld3
import Derived.KernelRfl
import Derived.Laws.BitsLemmas
import Derived.Laws.BytesArg
import Derived.Laws.IdiomCopy
import Derived.Laws.MakeOwn
import Derived.Laws.OwnMore
import Derived.Laws.Rows
import Derived.Laws.Slices
import Derived.Laws.StructEq
import Derived.Lib.AppendStr
import Derived.Lib.ConvBytes
import Derived.Maps.AppendAt
import Derived.OrdersHeld
import Derived.OwnWalk
import Derived.RowKit
import Derived.RowKit3
import Derived.Shelf.Strings.Builder1
import Derived.Shelf.Strings.BuilderF
import Derived.Shelf.Strings.BuilderK
import Derived.Tactics
import Derived.WalkKit
import Derived.WideLaws
import Derived.Test.YtkgijkfcmbpgpaaO3b0
import Derived.Test.YtkgijkfcmbpgpaaO3b1
import Derived.Test.YtkgijkfcmbpgpaaProg
section
namespace Go.Proofs.Ytkgijkfcmbpgpaa.PWir
open Go.RowKit Go.Proofs.YtkgijkfcmbpgpaaW.PrintWords Go.Proofs.YtkgijkfcmbpgpaaW.PrintLast Go.Proofs.YtkgijkfcmbpgpaaW.PrintMore
attribute [local go_sem] max2_int min2_int max_two min_two max_three min_three max_four min_four   -- for this text's walks alone
set_option linter.unusedVariables false
set_option linter.unusedSimpArgs false



def errW : Option Int → Value
  | none => .nilIface
  | some c => .iface 0 (.int .i64 c)
theorem errW_none : errW none = .nilIface := rfl
theorem errW_some (c : Int) : errW (some c) = .iface 0 (.int .i64 c) := rfl

theorem info44 : (Try.prog.info? 44).map (fun i => (i.zero, i.size, i.bytes)) = some (some (.agg #[(.bool false), (.int .i64 0), (.string ⟨#[]⟩), (.slice none 0 0)]), 4, 56) := by kernel_rfl
-- the values' own types
/-! #### struct type 44, nested in itself -/
structure S44 where
  f0 : Bool
  f1 : Int
  f2 : ByteArray
  f3 : (List S44)
def z44 : S44 := ⟨false, (0 : Int), (⟨#[]⟩ : ByteArray), ([] : List S44)⟩
def F44 (d : Kd S44) : Kd S44 := Kd.iso (Kd.pair Kd.bool (Kd.pair (Kd.int .i64) (Kd.pair Kd.string (Kd.slice 44 d)))) (fun x : S44 => (x.f0, x.f1, x.f2, x.f3))
theorem mono44 : Kd.Mono F44 := Kd.mono_iso _ (Kd.mono_pair (Kd.mono_const _) (Kd.mono_pair (Kd.mono_const _) (Kd.mono_pair (Kd.mono_const _) (Kd.mono_slice 44 Kd.mono_id))))
theorem sub44 : Kd.Sub F44 [44] := Kd.sub_iso _ (Kd.sub_pair (Kd.sub_const _ (by decide)) (Kd.sub_pair (Kd.sub_const _ (by decide)) (Kd.sub_pair (Kd.sub_const _ (by decide)) (Kd.sub_slice 44 (by decide) Kd.sub_id))))
theorem sz44 : ∀ n, (Kd.upto F44 4 [44] n).sz = 4 := Kd.upto_sz (fun _ => rfl)
def k44 : Kd S44 := Kd.fix F44 4 [44] sz44 (Kd.upto_E sub44)
theorem k44_open {w : World} {x : S44} {cs : List Value} (h : k44.K w x cs) : ∃ A3 c3, cs = [.bool x.f0, .int .i64 x.f1, .string x.f2, .slice A3 x.f3.length c3] ∧ x.f3.length ≤ c3 ∧ k44.C w A3 x.f3.length x.f3 := by
  obtain ⟨n, h⟩ := h
  cases n with
  | zero => exact h.elim
  | succ n =>
    obtain ⟨_, _, rfl, rfl, ⟨_, _, rfl, rfl, ⟨_, _, rfl, rfl, ⟨A3, c3, rfl, l3, g3⟩⟩⟩⟩ := h
    exact ⟨A3, c3, rfl, l3, Kd.fix_C g3⟩
theorem k44_mk (w : World) (x : S44) {A3 : Option Addr} {c3 : Nat} (l3 : x.f3.length ≤ c3) (g3 : k44.C w A3 x.f3.length x.f3) : k44.K w x [.bool x.f0, .int .i64 x.f1, .string x.f2, .slice A3 x.f3.length c3] := by
  obtain ⟨n3, q3⟩ := Kd.fix_C_back mono44 g3
  have r3 := Kd.upto_C_le mono44 sz44 (show n3 ≤ n3 by omega) q3
  exact ⟨n3 + 1, ⟨[.bool x.f0], [.int .i64 x.f1, .string x.f2, .slice A3 x.f3.length c3], rfl, rfl, ⟨[.int .i64 x.f1], [.string x.f2, .slice A3 x.f3.length c3], rfl, rfl, ⟨[.string x.f2], [.slice A3 x.f3.length c3], rfl, rfl, ⟨A3, c3, rfl, l3, r3⟩⟩⟩⟩⟩
theorem k44_mkM (w : World) (base : Nat) (ok : Nat → Prop) (x : S44) {v3 : Value} (g3 : k44.R 44 w base ok v3 x.f3) : k44.M w base ok x [.bool x.f0, .int .i64 x.f1, .string x.f2, v3] := by
  obtain ⟨n3, q3⟩ := Kd.fix_R_back mono44 g3
  have r3 := Kd.upto_R_le mono44 sz44 (show n3 ≤ n3 by omega) q3
  exact ⟨n3 + 1, ⟨[.bool x.f0], [.int .i64 x.f1, .string x.f2, v3], rfl, rfl, ⟨[.int .i64 x.f1], [.string x.f2, v3], rfl, rfl, ⟨[.string x.f2], [v3], rfl, rfl, ⟨v3, rfl, r3⟩⟩⟩⟩⟩
def rd_T44 (xs : List S44) (i : Int) : S44 := xs.getD i.toNat z44
theorem at_T44 {w : World} {A : Option Addr} {n : Nat} {xs : List S44} (h : Kd.C k44 w A n xs) (i : Int) (h0 : 0 ≤ i) (h1 : i < n) : ∃ ad A3 c3, A = some ad ∧ w.cell? (ad.add (i.toNat * 4)) = some (.bool (rd_T44 xs i).f0) ∧ w.cell? ⟨(ad.add (i.toNat * 4)).block, (ad.add (i.toNat * 4)).off + 1, none⟩ = some (.int .i64 (rd_T44 xs i).f1) ∧ w.cell? ⟨(ad.add (i.toNat * 4)).block, (ad.add (i.toNat * 4)).off + 2, none⟩ = some (.string (rd_T44 xs i).f2) ∧ w.cell? ⟨(ad.add (i.toNat * 4)).block, (ad.add (i.toNat * 4)).off + 3, none⟩ = some (.slice A3 (rd_T44 xs i).f3.length c3) ∧ (rd_T44 xs i).f3.length ≤ c3 ∧ k44.C w A3 (rd_T44 xs i).f3.length (rd_T44 xs i).f3 := by
  obtain ⟨ad, c, e, _, hK, hc0⟩ := Kd.C_get h z44 i h0 h1
  have hc : ∀ j u, c[j]? = some u → w.cell? (ad.add (i.toNat * 4 + j)) = some u := hc0
  obtain ⟨A3, c3, rfl, l3, g3⟩ := k44_open hK
  exact ⟨ad, A3, c3, e, hc 0 _ rfl, by rw [← add_field _ _ 1 (by omega)]; exact hc 1 _ rfl, by rw [← add_field _ _ 2 (by omega)]; exact hc 2 _ rfl, by rw [← add_field _ _ 3 (by omega)]; exact hc 3 _ rfl, l3, g3⟩

end Go.Proofs.Ytkgijkfcmbpgpaa.PWir
end

section
namespace Go.Proofs.Ytkgijkfcmbpgpaa.Giv
open Go.RowKit Go.Proofs.YtkgijkfcmbpgpaaW.PrintWords Go.Proofs.YtkgijkfcmbpgpaaW.PrintLast Go.Proofs.YtkgijkfcmbpgpaaW.PrintMore Go.Proofs.Ytkgijkfcmbpgpaa.PWir
set_option linter.unusedVariables false
set_option linter.unusedSimpArgs false

-- How many items and bytes.
mutual
def isz : S44 → Nat
  | ⟨_, _, s, l⟩ => 1 + s.size + iszL l
def iszL : List S44 → Nat
  | [] => 0
  | x :: r => isz x + iszL r
end
/-- A length below 16384, to the base 128. -/
def lenL (n : Nat) : List UInt8 := if n < 128 then [UInt8.ofNat n] else [UInt8.ofNat (128 + n / 128), UInt8.ofNat (n % 128)]
/-- The first byte. -/
def tagB (node : Bool) (t : Int) : UInt8 := UInt8.ofNat (t.toNat + if node then 128 else 0)
-- What an item is written as_.
mutual
def wr : S44 → List UInt8
  | ⟨n, t, s, l⟩ => if n then tagB n t :: (lenL (wrL l).length ++ wrL l) else tagB n t :: (lenL s.data.toList.length ++ s.data.toList)
def wrL : List S44 → List UInt8
  | [] => []
  | x :: r => wr x ++ wrL r
end
-- May it be written, in so many others?
mutual
def shp : S44 → Nat → Bool
  | ⟨n, t, s, l⟩, d => decide (d ≤ 32) && decide (1 ≤ t) && decide (t ≤ 127) && (if n then decide (s.size = 0) else l.isEmpty) && shpL l (d + 1)
def shpL : List S44 → Nat → Bool
  | [], _ => true
  | x :: r, d => shp x d && shpL r d
end
-- Are two the same?
mutual
def sameB : S44 → S44 → Bool
  | ⟨n, t, s, l⟩, ⟨m, u, r, k⟩ => (n == m) && decide (t = u) && (s.data.toList == r.data.toList) && sameL l k
def sameL : List S44 → List S44 → Bool
  | [], [] => true
  | x :: l, y :: k => sameB x y && sameL l k
  | [], _ :: _ => false
  | _ :: _, [] => false
end
/-- A length, as_ it is read. -/
def numGo : List UInt8 → Nat → Nat → Nat × Nat × Nat
  | [], _, _ => (0, 0, 10)
  | c :: r, n, i => if n * 128 + c.toNat % 128 > 65536 then (0, 0, 11) else if c.toNat ≥ 128 then numGo r (n * 128 + c.toNat % 128) (i + 1) else (n * 128 + c.toNat % 128, i + 1, 0)
def numS (l : List UInt8) : Nat × Nat × Nat := if 1 < l.length ∧ l.getD 1 0 = 128 then (0, 0, 13) else numGo (l.drop 1) 0 1
def baL (l : List UInt8) : ByteArray := ⟨l.toArray⟩

def wire_number.f (s : ByteArray) : Option (Int × Int × Int) := if s.size ≤ 140737488355328 then some (((numS s.data.toList).1 : Int), ((numS s.data.toList).2.1 : Int), ((numS s.data.toList).2.2 : Int)) else none
def wire_Put.f (a0_0 : Bool) (a0_1 : Int) (a0_2 : ByteArray) (l0_3 : List S44) : Option (ByteArray × Int) :=
  if isz ⟨a0_0, a0_1, a0_2, l0_3⟩ ≤ 3000 then (if shp ⟨a0_0, a0_1, a0_2, l0_3⟩ 0 = true then some (baL (wr ⟨a0_0, a0_1, a0_2, l0_3⟩), 0) else some (⟨#[]⟩, 1)) else none
def wire_Same.f (a0_0 : Bool) (a0_1 : Int) (a0_2 : ByteArray) (l0_3 : List S44) (a1_0 : Bool) (a1_1 : Int) (a1_2 : ByteArray) (l1_3 : List S44) : Option Bool :=
  if isz ⟨a0_0, a0_1, a0_2, l0_3⟩ ≤ 100000000 then some (sameB ⟨a0_0, a0_1, a0_2, l0_3⟩ ⟨a1_0, a1_1, a1_2, l1_3⟩) else none
theorem isz_pos (x : S44) : 1 ≤ isz x := by cases x; rw [isz]; omega
theorem iszL_len : ∀ l : List S44, l.length ≤ iszL l
  | [] => Nat.zero_le _
  | x :: r => by have := iszL_len r; have := isz_pos x; rw [iszL]; simp; omega
theorem iszL_mem : ∀ (l : List S44) (x : S44), x ∈ l → isz x ≤ iszL l
  | y :: r, x, h => by
    rw [iszL]
    rcases List.mem_cons.1 h with rfl | h
    · omega
    · have := iszL_mem r x h; omega

theorem ba_ext2 {a b : ByteArray} (h : a.data.toList = b.data.toList) : a = b := ByteArray.ext (Array.toList_inj.1 h)
theorem ba_toList (a : ByteArray) : a.toList = a.data.toList := ByteArray.toList_eq a
theorem ba_toList_inj {a b : ByteArray} (h : a.toList = b.toList) : a = b := by
  rw [ba_toList, ba_toList] at h
  exact ba_ext2 h
end Go.Proofs.Ytkgijkfcmbpgpaa.Giv
end

section
namespace Go.Proofs.Ytkgijkfcmbpgpaa.Giv
open Go.RowKit Go.Shelf Go.Proofs Go.Proofs.YtkgijkfcmbpgpaaW.PrintWords
set_option linter.unusedVariables false
set_option linter.unusedSimpArgs false
def wRen : Ren where
  f n := if n = 166 then 51 else if n = 167 then 64 else if n = 170 then 52 else if n = 169 then 53 else if n = 240 then 63 else if n = 276 then 69 else n
  t n := if n = 37 then 27 else if n = 70 then 66 else if n = 72 then 68 else if n = 75 then 72 else if n = 80 then 76 else if n = 127 then 88 else if n = 164 then 95 else n
  g n := n
theorem wLays170 : Lays.n170 Try.prog wRen := by
  constructor <;> first | (intro w; kernel_rfl) | kernel_rfl
theorem wLays169 : Lays.n169 Try.prog wRen := by
  constructor <;> first | (intro w; kernel_rfl) | kernel_rfl
theorem wLays166 : Lays.n166 Try.prog wRen := by
  constructor <;> first | (intro w; kernel_rfl) | kernel_rfl
theorem wX72 : Builder.X72 Try.prog wRen := by
  constructor <;> kernel_rfl
theorem wExtra : Builder.Extra Try.prog wRen := by
  refine { toX72 := wX72, t5 := ?_, a5 := ?_, z5 := ?_, v5 := ?_, infoByte := ?_, cellsByte := ?_, sizeByte := ?_, neB5 := by decide } <;> first | (intro w; kernel_rfl) | kernel_rfl
/-- A builder in block b, its buffer v, of these bytes. -/
def BV (B b : Nat) (p v : Value) (l : List Value) (w : World) : Prop := B ≤ b ∧ w.heap[b]? = some (.cells #[p, v] 68 (0, 0)) ∧ w.ownsRow B 5 1 v l.length l
theorem BV.row {B b : Nat} {p v : Value} {l : List Value} {w : World} (h : BV B b p v l w) {k : Nat} (hk : v.ownBlock = some k) : B ≤ k ∧ ∃ c, w.heap[k]? = some (.cells c 5 (0, 0)) := by
  rcases h.2.2.2 with ⟨hv, _⟩ | ⟨g, cap, cur, hv, hb, hg, _⟩
  · rw [hv] at hk; cases hk
  · rw [hv] at hk
    obtain rfl : g = k := Option.some.inj hk
    exact ⟨hb, _, hg⟩
theorem BV.ne {B b : Nat} {p v : Value} {l : List Value} {w : World} (h : BV B b p v l w) : v.ownBlock ≠ some b := by
  intro e
  obtain ⟨_, c, hc⟩ := h.row e
  rw [h.2.1] at hc
  cases hc
theorem BV.at {B b : Nat} {p v : Value} {l : List Value} {w : World} (h : BV B b p v l w) : Lib.BuilderAt 68 5 B b p l w := ⟨h.1, v, h.2.1, h.2.2, h.ne⟩
theorem BV.lt {B b : Nat} {p v : Value} {l : List Value} {w : World} (h : BV B b p v l w) : b < w.heap.size := (Array.getElem?_eq_some_iff.1 h.2.1).1
theorem BV.rlt {B b : Nat} {p v : Value} {l : List Value} {w : World} (h : BV B b p v l w) {k : Nat} (hk : v.ownBlock = some k) : k < w.heap.size := by
  obtain ⟨_, c, hc⟩ := h.row hk
  exact (Array.getElem?_eq_some_iff.1 hc).1
/-- It lives on where its two blocks lie as_ they lay. -/
theorem BV.kept {B b : Nat} {p v : Value} {l : List Value} {w w' : World} (h : BV B b p v l w) (h1 : w'.heap[b]? = w.heap[b]?) (h2 : ∀ k, v.ownBlock = some k → w'.heap[k]? = w.heap[k]?) : BV B b p v l w' := by
  refine ⟨h.1, h1.trans h.2.1, h.2.2.1, ?_⟩
  rcases h.2.2.2 with hv | ⟨g, cap, cur, hv, hb, hg, r⟩
  · exact .inl hv
  · exact .inr ⟨g, cap, cur, hv, hb, (h2 g (by rw [hv]; rfl)).trans hg, r⟩
/-- What a write to builder b turns: nothing below n but b and its row; its row stays, or lies from n on. -/
structure Fr (n b : Nat) (v : Value) (w : World) (v' : Value) (w' : World) : Prop where
  keep : ∀ k o, k < n → w.heap[k]? = some o → k ≠ b → v.ownBlock ≠ some k → w'.heap[k]? = some o
  row : v'.ownBlock = v.ownBlock ∨ ∃ r, v'.ownBlock = some r ∧ n ≤ r
  size : w.heap.size ≤ w'.heap.size
theorem Fr.refl (n b : Nat) (v : Value) (w : World) : Fr n b v w v w := ⟨fun _ _ _ h _ _ => h, .inl rfl, Nat.le_refl _⟩
theorem Fr.trans {n b : Nat} {v v' v'' : Value} {w w' w'' : World} (h : Fr n b v w v' w') (k : Fr n b v' w' v'' w'') : Fr n b v w v'' w'' := by
  refine ⟨fun i o hi ho hb hv => k.keep i o hi (h.keep i o hi ho hb hv) hb ?_, ?_, Nat.le_trans h.size k.size⟩
  · rcases h.row with e | ⟨r, e, hr⟩
    · rw [e]; exact hv
    · rw [e]; intro q; have := Option.some.inj q; omega
  · rcases k.row with e | ⟨r, e, hr⟩
    · rw [e]; exact h.row
    · exact .inr ⟨r, e, hr⟩
theorem Fr.mono {n m b : Nat} {v v' : Value} {w w' : World} (h : Fr n b v w v' w') (hm : m ≤ n) : Fr m b v w v' w' :=
  ⟨fun i o hi ho hb hv => h.keep i o (by omega) ho hb hv, h.row.imp id fun ⟨r, e, hr⟩ => ⟨r, e, by omega⟩, h.size⟩
theorem Fr.of_below {n m b : Nat} {v : Value} {w w' : World} (h : Below m w w') (hn : n ≤ m) (hs : w.heap.size ≤ w'.heap.size) : Fr n b v w v w' :=
  ⟨fun i o hi ho _ _ => (h.block i (by omega)).trans ho, .inl rfl, hs⟩
/-- Another builder lives on. -/
theorem BV.other {n B C b i : Nat} {p v v' q u : Value} {l m : List Value} {w w' : World} (h : BV C i q u m w) (hb : BV B b p v l w) (hf : Fr n b v w v' w') (hn : w.heap.size ≤ n) (hne : i ≠ b) (hd : ∀ k, u.ownBlock = some k → v.ownBlock ≠ some k) : BV C i q u m w' := by
  refine h.kept ?_ fun k hk => ?_
  · rw [h.2.1]
    refine hf.keep i _ (by have := h.lt; omega) h.2.1 hne fun e => ?_
    obtain ⟨_, c, hc⟩ := hb.row e
    rw [h.2.1] at hc
    cases hc
  · obtain ⟨_, c, hc⟩ := h.row hk
    rw [hc]
    refine hf.keep k _ (by have := h.rlt hk; omega) hc (fun e => ?_) (hd k hk)
    subst e
    rw [hb.2.1] at hc
    cases hc
theorem w_check (B b : Nat) (p v : Value) (l : List Value) (w : World) (hp : p = .pointer none ∨ p = .pointer (some ⟨b, 0, none⟩)) (h : BV B b p v l w) :
    Calls Try.prog 63 #[.pointer (some ⟨b, 0, none⟩)] w fun e w' => e = .returned (.tuple #[]) ∧ BV B b (.pointer (some ⟨b, 0, none⟩)) v l w' ∧ Below B w w' ∧ Fr w.heap.size b v w v w' := by
  have L : Lays.n240 Try.prog wRen := { wLays166 with }
  rcases hp with rfl | rfl
  · refine (Any.Builder_copyCheck_fresh L wX72 b w h.at.cell0 h.at.shape h.at.frozen0).mono ?_
    rintro e w' ⟨rfl, rfl⟩
    have ho : ∀ k, k ≠ b → (w.setCell ⟨b, 0, none⟩ (.pointer (some ⟨b, 0, none⟩))).heap[k]? = w.heap[k]? := fun k hk => Below.heap_setCell w ⟨b, 0, none⟩ _ k hk
    refine ⟨rfl, ⟨h.1, ?_, h.2.2.1, ?_⟩, (Below.refl B w).setCell (p := ⟨b, 0, none⟩) h.1 _, ⟨fun k o _ hk hb _ => (ho k hb).trans hk, .inl rfl, by simp [World.setCell]⟩⟩
    · simp [World.setCell, Array.getElem?_modify, h.2.1]
    · rcases h.2.2.2 with hv | ⟨g, cap, cur, hv, hb, hg, r⟩
      · exact .inl hv
      · refine .inr ⟨g, cap, cur, hv, hb, (ho g fun e => ?_).trans hg, r⟩
        subst e
        exact h.ne (by rw [hv]; rfl)
  · refine (Any.Builder_copyCheck_used L wX72 b w h.at.cell0).mono ?_
    rintro e w' ⟨rfl, rfl⟩
    exact ⟨rfl, h, Below.refl B _, Fr.refl _ _ _ _⟩
/-- The store of the new buffer. -/
theorem BV.put {B b : Nat} {p v v' : Value} {l l' : List Value} {w w' : World} (h : BV B b p v l w) (hg : w.grownBy w' v.ownBlock) (hown : w'.ownsRow B 5 1 v' l'.length l') : BV B b p v' l' (w'.setCell ⟨b, 1, none⟩ v') := by
  have h2 : w'.heap[b]? = some (.cells #[p, v] 68 (0, 0)) := (hg.block b h.lt (fun e => h.ne e.symm)).trans h.2.1
  refine ⟨h.1, ?_, hown.1, ?_⟩
  · simp [World.setCell, Array.getElem?_modify, h2]
  · rcases hown.2 with hv | ⟨g, cap, cur, hv, hb, hg, r⟩
    · exact .inl hv
    · refine .inr ⟨g, cap, cur, hv, hb, (Below.heap_setCell w' ⟨b, 1, none⟩ v' g fun e => ?_).trans hg, r⟩
      have e' : g = b := e
      subst e'
      rw [h2] at hg
      cases hg
theorem Fr.put {B b : Nat} {p v v' : Value} {l : List Value} {w w' : World} (h : BV B b p v l w) (hg : w.grownBy w' v.ownBlock) (hat : v'.ownBlock = v.ownBlock ∨ ∃ r, v'.ownBlock = some r ∧ w.heap.size ≤ r) : Fr w.heap.size b v w v' (w'.setCell ⟨b, 1, none⟩ v') :=
  ⟨fun k o hk ho hb hv => (Below.heap_setCell w' ⟨b, 1, none⟩ v' k hb).trans ((hg.block k hk (fun e => hv e.symm)).trans ho), hat, by have := hg.size; simpa [World.setCell] using this⟩
set_option maxHeartbeats 2000000 in
set_option maxRecDepth 100000 in
theorem w_byte (B b : Nat) (p v : Value) (l : List Value) (c : Int) (w : World) (hp : p = .pointer none ∨ p = .pointer (some ⟨b, 0, none⟩)) (h : BV B b p v l w) (hl : l.length + 1 ≤ 140737488355328) (hB : B ≤ w.heap.size) :
    Calls Try.prog 64 #[.pointer (some ⟨b, 0, none⟩), .int .u8 c] w fun e w' => e = .returned .nilIface ∧ Below B w w' ∧ ∃ v', BV B b (.pointer (some ⟨b, 0, none⟩)) v' (l ++ [.int .u8 c]) w' ∧ Fr w.heap.size b v w v' w' := by
  obtain ⟨i0, hi, hz0, hz1, hz2⟩ := info_parts wExtra.infoByte
  go_enter Try.func64, Try.ntmps64
  go_wp2_with (go_at_call 63; refine (w_check B b p v l _ hp h).mono ?_)
  rintro e w1 ⟨rfl, h1, hb1, hf1⟩
  have hs1 := hf1.size
  have c1 : w1.cell? ⟨b, 1, none⟩ = some v := by rw [Lib.cell_of_heap h1.2.1]; rfl
  go_wp2_with (at_builtin; refine wpList_append_own_at _ rfl _ _ 27 rfl B 5 i0 (.int .u8 0) 1 1 Try.underlying27 hi hz0 hz1 hz2 rfl (by decide) _ _ _ rfl (h1.2.2.alloc _) ⟨w1.heap.size, 0, none⟩ 1 1 [.int .u8 c] rfl rfl ?c1 ?c2 ?c3 ?c4 ?c5 ?_)
  case c1 =>
    intro j u hj
    match j, hj with
    | 0, hj => simp at hj; subst hj; simp [Addr.add]
  case c2 => intro u hu; simp at hu; subst hu; rfl
  case c3 => unfold maxLen; omega
  case c4 => omega
  case c5 => simp; omega
  intro v' w2 hown' hgrow _ hat
  have hg2 : w1.grownBy w2 v.ownBlock := World.grownBy.trans (World.grownBy_alloc w1 _ _) hgrow
  have hb2 : w2.heap[b]? = some (.cells #[.pointer (some ⟨b, 0, none⟩), v] 68 (0, 0)) := (hg2.block b h1.lt (fun e => h1.ne e.symm)).trans h1.2.1
  have d1 : w2.cell? ⟨b, 1, none⟩ = some v := by rw [Lib.cell_of_heap hb2]; rfl
  have f1 : w2.frozen? ⟨b, 1, none⟩ = false := Lib.frozen_of_heap hb2 1
  have hat2 : v'.ownBlock = v.ownBlock ∨ ∃ r, v'.ownBlock = some r ∧ w1.heap.size ≤ r := hat.imp id fun e => ⟨_, e, by simp⟩
  obtain ⟨ao, n', cap, rfl⟩ : ∃ ao n' cap, v' = .slice ao n' cap := by
    rcases hown'.2 with ⟨hv, _⟩ | ⟨g, cap, cur, hv, _⟩
    · exact ⟨_, _, _, hv⟩
    · exact ⟨_, _, _, hv⟩
  clear hat
  go_wp2
  go_ret
  refine ⟨rfl, ?_, _, h1.put (l' := l ++ [.int .u8 c]) hg2 (by simpa using hown'), (hf1.trans ((Fr.put h1 hg2 hat2).mono hs1))⟩
  exact ((hb1.alloc (by omega) _).grown hgrow (by simp; omega) (fun k hk => by have := (h1.row hk).1; exact this)).setCell (p := ⟨b, 1, none⟩) h1.1 _
/-- append(buf, s...) where the buffer has a row. -/
theorem run_str_at (w : World) (base g n cap : Nat) (i : TypeInfo) (hi : Try.prog.info? 5 = some i) (hz : i.zero = some (.int .u8 0)) (hsize : i.size = 1) (hby : i.bytes = 1) (ty : TypeId) (xs : List Value) (hown : w.ownsRow base 5 1 (.slice (some ⟨g, 0, none⟩) n cap) n xs) (s : ByteArray)
    (hl : n + s.size ≤ 140737488355328) (hbase : base ≤ w.heap.size) :
    ∃ v' w', (Builtin.append_ #[27, 9] ty #[.slice (some ⟨g, 0, none⟩) n cap, .string s]).run Try.prog w = .ok v' w' ∧ w'.ownsRow base 5 1 v' (n + s.size) (xs ++ Lib.strCells s) ∧ w.grownBy w' (some g) ∧ (v'.ownBlock = some g ∨ ∃ r, v'.ownBlock = some r ∧ w.heap.size ≤ r) := by
  have h63 : n + s.size ≤ maxLen := by unfold maxLen; omega
  obtain ⟨hxl0, hor⟩ := hown
  have hxl : xs.length = n := by simpa using hxl0
  obtain ⟨cur, hbg, hg, hnc, hcm, hcs, htake⟩ : ∃ cur, base ≤ g ∧ w.heap[g]? = some (.cells cur 5 (0, 0)) ∧ n ≤ cap ∧ cap ≤ maxLen ∧ cur.size = cap * 1 ∧ cur.toList.take (n * 1) = xs := by
    rcases hor with ⟨hv, _⟩ | ⟨g', cap', cur, hv, h1, h2, h3, h4, h5, h6⟩
    · cases hv
    · cases hv
      exact ⟨cur, h1, h2, h3, h4, h5, h6⟩
  have hown' : w.ownsRow base 5 1 (.slice (some ⟨g, 0, none⟩) n cap) n xs := ⟨hxl0, hor⟩
  have hlen : (xs ++ Lib.strCells s).length = (n + s.size) * 1 := by rw [List.length_append, hxl, Lib.strCells_length, Nat.mul_one]
  have hcs' : cur.size = cap := by simpa using hcs
  by_cases hroom : n + s.size ≤ cap
  · have hr := Lib.run_append_room_string (P := Try.prog) w 27 9 ty 5 i Try.underlying27 Try.underlying9 hi hsize g n cap cur hg s hroom (by omega)
    refine ⟨_, _, hr, ⟨hlen, .inr ⟨g, cap, _, rfl, hbg, setRow_heap w g cur _ 5 _ hg, by omega, hcm, ?_, ?_⟩⟩, ⟨rfl, rfl, rfl, by simp, fun k _ hk => Go.setRow_other w g k _ (fun e => hk (by simp [e]))⟩, .inl rfl⟩
    · simp only [List.size_toArray, List.length_append, List.length_take, List.length_drop, Array.length_toList, Lib.strCells_length]
      omega
    · have ht' : cur.toList.take n = xs := by simpa using htake
      rw [ht', ← hlen]
      exact List.take_left
  · have holds : ∀ j u, xs[j]? = some u → w.cell? ((⟨g, 0, none⟩ : Addr).add j) = some u := hown'.cells (g := g) rfl
    have hr := Lib.run_append_grow_string (P := Try.prog) w 27 9 ty 5 i (.int .u8 0) Try.underlying27 Try.underlying9 hi hz ⟨g, 0, none⟩ n cap xs (by rw [hsize]; simpa using hxl) holds s (by omega) (by omega) (by rw [hby]; exact growslice_fits (by omega) (by omega))
    have hge := grownCap_ge w (n + s.size) cap 5
    have hcm2 : grownCap w (n + s.size) cap 5 ≤ maxLen := grownCap_le_maxLen w (n + s.size) cap 5 h63
    refine ⟨_, _, hr, ⟨hlen, .inr ⟨w.heap.size, _, _, rfl, hbase, heap_alloc_new w.drew _, hge, hcm2, ?_, ?_⟩⟩, ⟨rfl, rfl, rfl, by simp, fun k hk _ => Below.heap_alloc w.drew _ k hk⟩, .inr ⟨_, rfl, Nat.le_refl _⟩⟩
    · have hz1 : (Value.int IntKind.u8 0).cells.size = 1 := rfl
      simp only [Array.size_append, List.size_toArray, size_zeroCells, hz1, hxl, Lib.strCells_length]
      omega
    · simp only [Array.toList_append, List.append_assoc]
      rw [← List.append_assoc, ← hlen]
      exact List.take_left
theorem wpList_str_at {w : World} {ops : Array Oper} {rest : List Oper} {o : Oper} {a : Act} {Q : Exit → Act → World → Prop} (hgd : o.guard = none) (sl x : Operand)
    (ho : o.op = .call { callee := .builtin .append, args := #[sl, x], argTypes := #[27, 9] }) (base g n cap : Nat) (i : TypeInfo) (hi : Try.prog.info? 5 = some i) (hz : i.zero = some (.int .u8 0)) (hsize : i.size = 1) (hby : i.bytes = 1)
    (xs : List Value) (hs : a.eval sl = .slice (some ⟨g, 0, none⟩) n cap) (hown : w.ownsRow base 5 1 (.slice (some ⟨g, 0, none⟩) n cap) n xs) (s : ByteArray) (hx : a.eval x = .string s)
    (hl : n + s.size ≤ 140737488355328) (hbase : base ≤ w.heap.size)
    (h : ∀ v' w', w'.ownsRow base 5 1 v' (n + s.size) (xs ++ Lib.strCells s) → w.grownBy w' (some g) → (v'.ownBlock = some g ∨ ∃ r, v'.ownBlock = some r ∧ w.heap.size ≤ r) → wpList Try.prog ops Q rest (a.put o.dst v') w') : wpList Try.prog ops Q (o :: rest) a w := by
  refine wpList_plain hgd fun K hK => ?_
  obtain ⟨v', w', hr, h2, h3, h4⟩ := run_str_at w base g n cap i hi hz hsize hby o.type xs hown s hl hbase
  unfold Oper.wp execOp
  simp only [ho, resolve, invoke, builtin, Sem.run_bind, Sem.run_pure, Result.andThen_ok, List.map_toArray, List.map_cons, List.map_nil, hs, hx, hr]
  exact hK _ _ (h v' w' h2 h3 h4)
set_option maxHeartbeats 2000000 in
set_option maxRecDepth 100000 in
theorem w_string (B b : Nat) (v : Value) (l : List Value) (s : ByteArray) (w : World) (h : BV B b (.pointer (some ⟨b, 0, none⟩)) v l w) (h0 : 0 < l.length) (hl : l.length + s.size ≤ 140737488355328) (hB : B ≤ w.heap.size) :
    Calls Try.prog 51 #[.pointer (some ⟨b, 0, none⟩), .string s] w fun e w' => e = .returned (.tuple #[.int .i64 s.size, .nilIface]) ∧ Below B w w' ∧ ∃ v', BV B b (.pointer (some ⟨b, 0, none⟩)) v' (l ++ Lib.strCells s) w' ∧ Fr w.heap.size b v w v' w' := by
  obtain ⟨i0, hi, hz0, hz1, hz2⟩ := info_parts wExtra.infoByte
  obtain ⟨g, cap, hv⟩ : ∃ g cap, v = .slice (some ⟨g, 0, none⟩) l.length cap := by
    rcases h.2.2.2 with ⟨_, q⟩ | ⟨g, cap, cur, hv, _⟩
    · omega
    · exact ⟨g, cap, hv⟩
  go_enter Try.func51, Try.ntmps51
  go_wp2_with (go_at_call 63; refine (w_check B b _ v l _ (.inr rfl) h).mono ?_)
  rintro e w1 ⟨rfl, h1, hb1, hf1⟩
  subst hv
  have hs1 := hf1.size
  have c1 : w1.cell? ⟨b, 1, none⟩ = some (.slice (some ⟨g, 0, none⟩) l.length cap) := by rw [Lib.cell_of_heap h1.2.1]; rfl
  go_wp2_with (at_builtin; refine wpList_str_at rfl _ _ rfl B g l.length cap i0 hi hz0 hz1 hz2 _ rfl h1.2.2 s rfl ?c4 ?c5 ?_)
  case c4 => omega
  case c5 => omega
  intro v' w2 hown' hgrow hat
  have hb2 : w2.heap[b]? = some (.cells #[.pointer (some ⟨b, 0, none⟩), .slice (some ⟨g, 0, none⟩) l.length cap] 68 (0, 0)) := (hgrow.block b h1.lt (fun e => h1.ne e.symm)).trans h1.2.1
  have d1 : w2.cell? ⟨b, 1, none⟩ = some (.slice (some ⟨g, 0, none⟩) l.length cap) := by rw [Lib.cell_of_heap hb2]; rfl
  have f1 : w2.frozen? ⟨b, 1, none⟩ = false := Lib.frozen_of_heap hb2 1
  obtain ⟨ao, n', cap', rfl⟩ : ∃ ao n' cap, v' = .slice ao n' cap := by
    rcases hown'.2 with ⟨hv, _⟩ | ⟨g, cap, cur, hv, _⟩
    · exact ⟨_, _, _, hv⟩
    · exact ⟨_, _, _, hv⟩
  have HAT := Aside0.mk hat
  clear hat
  go_wp2
  go_ret2
  refine ⟨rfl, ?_, _, h1.put (l' := l ++ Lib.strCells s) hgrow (by simpa [Lib.strCells_length] using hown'), (hf1.trans ((Fr.put h1 hgrow HAT.out).mono hs1))⟩
  exact (hb1.grown hgrow (by omega) (fun k hk => (h1.row hk).1)).setCell (p := ⟨b, 1, none⟩) h1.1 _
theorem w_len (B b : Nat) (p v : Value) (l : List Value) (w : World) (hp : p = .pointer none ∨ p = .pointer (some ⟨b, 0, none⟩)) (h : BV B b p v l w) :
    Calls Try.prog 52 #[.pointer (some ⟨b, 0, none⟩)] w fun e w' => e = .returned (.int .i64 l.length) ∧ w' = w := by
  refine Any.Builder_Len_f wLays170 B b l w ?_
  rcases hp with rfl | rfl
  · exact .inl (.of h.at)
  · exact .inr (.of h.at)
theorem freeze_other (w : World) (p : Addr) (n k : Nat) (hk : k ≠ p.block) : (w.freeze p n).heap[k]? = w.heap[k]? := by
  unfold World.freeze
  split
  · rfl
  · simp only [Array.getElem?_modify]
    rw [if_neg (fun e => hk e.symm)]
theorem freeze_size (w : World) (p : Addr) (n : Nat) : (w.freeze p n).heap.size = w.heap.size := by
  unfold World.freeze
  split
  · rfl
  · simp
set_option maxHeartbeats 2000000 in
set_option maxRecDepth 100000 in
theorem w_str (B b : Nat) (p v : Value) (l : List UInt8) (w : World) (h : BV B b p v (Lib.byteCells l) w) (h0 : l ≠ []) :
    Calls Try.prog 53 #[.pointer (some ⟨b, 0, none⟩)] w fun e w' => e = .returned (.string ⟨l.toArray⟩) ∧ Below B w w' ∧ (∀ k o, w.heap[k]? = some o → v.ownBlock ≠ some k → w'.heap[k]? = some o) ∧ w'.heap.size = w.heap.size := by
  obtain ⟨hB, hbk, hxl, hor⟩ := h
  have hl0 : l.length ≠ 0 := by simpa using h0
  rw [Lib.byteCells_length] at hor hxl
  obtain ⟨g, cap, cur, rfl, hbg, hg, hnc, hcm, hcs, htake⟩ : ∃ g cap cur, v = .slice (some ⟨g, 0, none⟩) l.length cap ∧ B ≤ g ∧ w.heap[g]? = some (.cells cur 5 (0, 0)) ∧ l.length ≤ cap ∧ cap ≤ maxLen ∧ cur.size = cap * 1 ∧ cur.toList.take (l.length * 1) = Lib.byteCells l := by
    rcases hor with ⟨_, hz⟩ | ⟨g, cap, cur, hv, r⟩
    · exact absurd hz hl0
    · exact ⟨g, cap, cur, hv, r⟩
  have hown : w.ownsRow B 5 1 (.slice (some ⟨g, 0, none⟩) l.length cap) l.length (Lib.byteCells l) := ⟨by simp [Lib.byteCells_length], hor⟩
  have c1 : w.drew.cell? ⟨b, 1, none⟩ = some (.slice (some ⟨g, 0, none⟩) l.length cap) := by
    have : w.drew.heap[b]? = some (.cells #[p, .slice (some ⟨g, 0, none⟩) l.length cap] 68 (0, 0)) := hbk
    rw [Lib.cell_of_heap this]; rfl
  have c0 : w.cell? ⟨b, 1, none⟩ = some (.slice (some ⟨g, 0, none⟩) l.length cap) := c1
  have hSD : (Builtin.unsafeSliceData_ #[27] 88 #[.slice (some ⟨g, 0, none⟩) l.length cap]).run Try.prog w.drew = .ok (.pointer (some ⟨g, 0, none⟩)) w.drew :=
    Lib.run_unsafeSliceData_row _ _ _ _ _ _ (by omega)
  have hUS : (Builtin.unsafeString_ #[88, 3] 9 #[.pointer (some ⟨g, 0, none⟩), .int .i64 l.length]).run Try.prog w.drew = .ok (.string ⟨l.toArray⟩) (w.drew.freeze ⟨g, 0, none⟩ l.length) := by
    refine Lib.run_unsafeString_row w.drew 88 3 9 5 wLays169.t127 wExtra.cellsByte g cur.size (by have hg' : w.drew.heap[g]? = some (.cells cur 5 (0, 0)) := hg; simp [World.shape?, hg']) l h0 (by omega) (by unfold maxLen at hcm; omega) ?_
    intro j x hx
    exact hown.cells (g := g) rfl j (.int .u8 x.toNat) (by simp [Lib.byteCells, hx])
  have HF := Aside0.mk (show ∀ k o, w.heap[k]? = some o → (Value.slice (some ⟨g, 0, none⟩) l.length cap).ownBlock ≠ some k → (w.drew.freeze ⟨g, 0, none⟩ l.length).heap[k]? = some o from fun k o hk hv => (freeze_other w.drew ⟨g, 0, none⟩ l.length k (fun e => hv (by rw [e]; rfl))).trans hk)
  have HS := Aside0.mk (freeze_size w.drew ⟨g, 0, none⟩ l.length)
  have HB := Aside0.mk (Lib.below_freeze (Below.drew (Below.refl B w)) (p := ⟨g, 0, none⟩) hbg l.length)
  clear hor hown htake hcs hg hbk hxl hcm hnc
  go_enter Try.func53, Try.ntmps53
  go_wp2
  go_region
  all_goals (go_wp2; go_ret; exact ⟨rfl, HB.out, HF.out, HS.out⟩)
set_option maxHeartbeats 2000000 in
set_option maxRecDepth 100000 in
theorem w_str_nil (b : Nat) (p : Value) (w : World) (hbk : w.heap[b]? = some (.cells #[p, .slice none 0 0] 68 (0, 0))) :
    Calls Try.prog 53 #[.pointer (some ⟨b, 0, none⟩)] w fun e w' => e = .returned (.string ⟨#[]⟩) ∧ ∃ n, w' = w.drewN n := by
  have hUS : ∀ (a : Option Addr) (W : World), (Builtin.unsafeString_ #[88, 3] 9 #[.pointer a, .int .i64 0]).run Try.prog W = .ok (.string ⟨#[]⟩) W := fun a W => Any.unsafeString_none wLays169 wExtra W a
  have c1 : w.drew.cell? ⟨b, 1, none⟩ = some (.slice none 0 0) := by
    have : w.drew.heap[b]? = some (.cells #[p, .slice none 0 0] 68 (0, 0)) := hbk
    rw [Lib.cell_of_heap this]; rfl
  have c0 : w.cell? ⟨b, 1, none⟩ = some (.slice none 0 0) := c1
  have hSD : (Builtin.unsafeSliceData_ #[27] 88 #[.slice none 0 0]).run Try.prog w.drew = .ok (.pointer none) w.drew := rfl
  clear hbk
  go_enter Try.func53, Try.ntmps53
  go_wp2
  go_region
  all_goals (go_wp2; go_ret; exact ⟨rfl, 1, rfl⟩)
end Go.Proofs.Ytkgijkfcmbpgpaa.Giv
end
