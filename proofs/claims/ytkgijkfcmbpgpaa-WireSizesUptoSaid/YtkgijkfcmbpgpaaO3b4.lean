/- Joined by wip/pack.py out of: GWireL, GWireS, GWireP, MWire1; what nothing here names is left out. -/
import Derived.ArgAppend
import Derived.Below
import Derived.BigQuiet
import Derived.Deep.AppendLies
import Derived.Deep.CutBlock
import Derived.Deep.DeepCutAuto
import Derived.Deep.Draws
import Derived.Deep.LoopGhost
import Derived.Deep.OwnRows
import Derived.Deep.QuietTactic
import Derived.Deep.RegionHeld3
import Derived.KernelRfl
import Derived.Laws.BitsLemmas
import Derived.Laws.BytesArg
import Derived.Laws.IdiomCopy
import Derived.Laws.MakeOwn
import Derived.Laws.OwnMore
import Derived.Laws.Rows
import Derived.Laws.Slices
import Derived.Laws.StructEq
import Derived.Lib.AppendStr
import Derived.Lib.ConvBytes
import Derived.Maps.AppendAt
import Derived.OrdersHeld
import Derived.OwnWalk
import Derived.RowKit
import Derived.RowKit3
import Derived.Shelf.Strings.Builder1
import Derived.Shelf.Strings.BuilderF
import Derived.Shelf.Strings.BuilderK
import Derived.Tactics
import Derived.WalkKit
import Derived.WideLaws
import Derived.Test.YtkgijkfcmbpgpaaO3b2
import Derived.Test.YtkgijkfcmbpgpaaO3b3
import Derived.Test.YtkgijkfcmbpgpaaProg
section
namespace Go.Proofs.Ytkgijkfcmbpgpaa.Giv
open Go.RowKit Go.Proofs.YtkgijkfcmbpgpaaW.PrintWords Go.Proofs.YtkgijkfcmbpgpaaW.PrintLast Go.Proofs.YtkgijkfcmbpgpaaW.PrintMore Go.Proofs.Ytkgijkfcmbpgpaa.PWir
set_option linter.unusedVariables false
set_option linter.unusedSimpArgs false
theorem digits_one (n : Nat) (h : n < 128) : wire_digits.f 1 (n : Int) = some 1 := by
  unfold wire_digits.f
  rw [wire_digits.l0, if_neg (by omega)]
theorem digits_two (n : Nat) (h : 128 ≤ n) (h2 : n < 16384) : wire_digits.f 2 (n : Int) = some 2 := by
  unfold wire_digits.f
  have e : wrap64 (Int.tdiv (n : Int) 128) = ((n / 128 : Nat) : Int) := by
    rw [Int.tdiv_eq_ediv_of_nonneg (by omega)]; unfold wrap64; omega
  rw [wire_digits.l0, if_pos (by omega), e, wire_digits.l0, if_neg (by omega), show wrap64 (1 + 1) = 2 from by unfold wrap64; omega]
/-- The builder behind some writes. -/
def Wrote (B b : Nat) (v : Value) (w : World) (m : List Value) (w' : World) : Prop := Below B w w' ∧ ∃ v', BV B b (.pointer (some ⟨b, 0, none⟩)) v' m w' ∧ Fr w.heap.size b v w v' w'
theorem Wrote.byte {B b : Nat} {v : Value} {w w1 : World} {m : List Value} (h : Wrote B b v w m w1) (hB : B ≤ w.heap.size) (c : Int) (hl : m.length + 1 ≤ 140737488355328) :
    Calls Try.prog 64 #[.pointer (some ⟨b, 0, none⟩), .int .u8 c] w1 fun e w' => e = .returned .nilIface ∧ Wrote B b v w (m ++ [.int .u8 c]) w' := by
  obtain ⟨hb, v', hv, hf⟩ := h
  have hs := hf.size
  refine (w_byte B b _ v' m c w1 (.inr rfl) hv hl (by omega)).mono ?_
  rintro e w' ⟨rfl, hb2, v'', hv2, hf2⟩
  exact ⟨rfl, hb.trans hb2, v'', hv2, hf.trans (hf2.mono hs)⟩
theorem Wrote.drewN {B b : Nat} {v : Value} {w w1 : World} {m : List Value} (h : Wrote B b v w m w1) (n : Nat) : Wrote B b v w m (w1.drewN n) := by
  obtain ⟨hb, v', hv, hf⟩ := h
  exact ⟨pw_below_drewN hb _, v', hv.kept (by simp) (by simp), ⟨fun k o hk ho h1 h2 => by simpa using hf.keep k o hk ho h1 h2, hf.row, by simpa using hf.size⟩⟩
set_option maxHeartbeats 4000000 in
set_option maxRecDepth 100000 in
theorem w_length1 (B b n : Nat) (v : Value) (l : List Value) (w : World) (hn : n < 128) (h : BV B b (.pointer (some ⟨b, 0, none⟩)) v l w) (hl : l.length + 2 ≤ 140737488355328) (hB : B ≤ w.heap.size) :
    Calls Try.prog 65 #[.pointer (some ⟨b, 0, none⟩), .int .i64 (n : Int)] w fun e w' => e = .returned (.tuple #[]) ∧ Wrote B b v w (l ++ [.int .u8 (n : Int)]) w' := by
  have hd := digits_one n hn
  have HD := Aside0.mk hd
  have HW := Aside0.mk (show Wrote B b v w l w from ⟨Below.refl _ _, v, h, Fr.refl _ _ _ _⟩)
  have hn2 : (n : Int) < 128 := by omega
  clear hd h hn
  go_enter Try.func65, Try.ntmps65
  go_wp2_with (go_at_call 67; refine (wire_digits.calls 1 _ 1 _ HD.out).mono ?_; rintro e w' ⟨rfl, m, rfl⟩)
  have HW2 := Aside0.mk (HW.out.drewN m)
  clear HW
  go_loopw [4, 5] (fun v4 v5 wr => ∃ (k : Int), v4 = .int .i64 k ∧ Aside0 ((k = 0 ∧ Wrote B b v w l wr) ∨ (k = -1 ∧ Wrote B b v w (l ++ [.int .u8 (n : Int)]) wr))) (fun v4 _ _ => (intOf v4 + 1).toNat)
  case atStart => exact ⟨0, rfl, ⟨.inl ⟨rfl, HW2.out⟩⟩⟩
  case round =>
    clear HW2
    obtain ⟨k, rfl, HR⟩ := hrel
    rcases HR.out with ⟨rfl, hw⟩ | ⟨rfl, hw⟩
    · have HW := Aside0.mk hw
      clear hw HR
      go_wp2_with (go_at_call 64; refine (HW.out.byte hB _ (by omega)).mono ?_; rintro e w' ⟨rfl, hw⟩; have HV := Aside0.mk hw; clear hw)
      have q := HV.out
      rw [show (n : Int) % 128 = (n : Int) from by omega] at q
      exact ⟨⟨-1, rfl, ⟨.inr ⟨rfl, q⟩⟩⟩, by simp [intOf]⟩
    · have HW := Aside0.mk hw
      clear hw HR
      go_wp2
      go_end0
      exact ⟨rfl, HW.out⟩
set_option maxHeartbeats 4000000 in
set_option maxRecDepth 100000 in
theorem w_length2 (B b n : Nat) (v : Value) (l : List Value) (w : World) (h0 : 128 ≤ n) (hn : n < 16384) (h : BV B b (.pointer (some ⟨b, 0, none⟩)) v l w) (hl : l.length + 2 ≤ 140737488355328) (hB : B ≤ w.heap.size) :
    Calls Try.prog 65 #[.pointer (some ⟨b, 0, none⟩), .int .i64 (n : Int)] w fun e w' => e = .returned (.tuple #[]) ∧ Wrote B b v w ((l ++ [.int .u8 ((n : Int) / 128 + 128)]) ++ [.int .u8 ((n : Int) % 128)]) w' := by
  have hd := digits_two n h0 hn
  have HD := Aside0.mk hd
  have HW := Aside0.mk (show Wrote B b v w l w from ⟨Below.refl _ _, v, h, Fr.refl _ _ _ _⟩)
  have hn1 : 128 ≤ (n : Int) := by omega
  have hn2 : (n : Int) < 16384 := by omega
  have HL := Aside0.mk hl
  clear hd h hn h0 hl
  go_enter Try.func65, Try.ntmps65
  go_wp2_with (go_at_call 67; refine (wire_digits.calls 2 _ 2 _ HD.out).mono ?_; rintro e w' ⟨rfl, m, rfl⟩)
  have HW2 := Aside0.mk (HW.out.drewN m)
  clear HW
  go_loopw [4, 5] (fun v4 v5 wr => ∃ (k : Int), v4 = .int .i64 k ∧ Aside0 ((k = 1 ∧ Wrote B b v w l wr) ∨ (k = 0 ∧ Wrote B b v w (l ++ [.int .u8 ((n : Int) / 128 + 128)]) wr) ∨ (k = -1 ∧ Wrote B b v w ((l ++ [.int .u8 ((n : Int) / 128 + 128)]) ++ [.int .u8 ((n : Int) % 128)]) wr))) (fun v4 _ _ => (intOf v4 + 1).toNat)
  case atStart => exact ⟨1, rfl, ⟨.inl ⟨rfl, HW2.out⟩⟩⟩
  case round =>
    clear HW2
    obtain ⟨k, rfl, HR⟩ := hrel
    rcases HR.out with ⟨rfl, hw⟩ | ⟨rfl, hw⟩ | ⟨rfl, hw⟩
    · have HW := Aside0.mk hw
      clear hw HR
      go_wp2_with (go_at_call 64; refine (HW.out.byte hB _ (by have := HL.out; omega)).mono ?_; rintro e w' ⟨rfl, hw⟩; have HV := Aside0.mk hw; clear hw)
      have q := HV.out
      rw [show (n : Int) / 128 % 128 = (n : Int) / 128 from by omega] at q
      exact ⟨⟨0, rfl, ⟨.inr (.inl ⟨rfl, q⟩)⟩⟩, by simp [intOf]⟩
    · have HW := Aside0.mk hw
      clear hw HR
      go_wp2_with (go_at_call 64; refine (HW.out.byte hB _ (by have := HL.out; simp; omega)).mono ?_; rintro e w' ⟨rfl, hw⟩; have HV := Aside0.mk hw; clear hw)
      exact ⟨⟨-1, rfl, ⟨.inr (.inr ⟨rfl, HV.out⟩)⟩⟩, by simp [intOf]⟩
    · have HW := Aside0.mk hw
      clear hw HR
      go_wp2
      go_end0
      exact ⟨rfl, HW.out⟩
theorem byteCells_app (l m : List UInt8) : Lib.byteCells (l ++ m) = Lib.byteCells l ++ Lib.byteCells m := by simp [Lib.byteCells]
theorem lenL_cells (n : Nat) (hn : n < 16384) : Lib.byteCells (lenL n) = if n < 128 then [.int .u8 (n : Int)] else [.int .u8 ((n : Int) / 128 + 128), .int .u8 ((n : Int) % 128)] := by
  unfold lenL
  split
  · simp [Lib.byteCells]; omega
  · simp [Lib.byteCells]; omega
theorem lenL_len (n : Nat) : (lenL n).length ≤ 2 ∧ 1 ≤ (lenL n).length := by unfold lenL; split <;> simp
theorem w_length (B b n : Nat) (v : Value) (l : List Value) (w : World) (hn : n < 16384) (h : BV B b (.pointer (some ⟨b, 0, none⟩)) v l w) (hl : l.length + 2 ≤ 140737488355328) (hB : B ≤ w.heap.size) :
    Calls Try.prog 65 #[.pointer (some ⟨b, 0, none⟩), .int .i64 (n : Int)] w fun e w' => e = .returned (.tuple #[]) ∧ Wrote B b v w (l ++ Lib.byteCells (lenL n)) w' := by
  rw [lenL_cells n hn]
  by_cases h1 : n < 128
  · rw [if_pos h1]
    exact w_length1 B b n v l w h1 h hl hB
  · rw [if_neg h1]
    have := w_length2 B b n v l w (by omega) hn h hl hB
    rw [List.append_assoc] at this
    exact this
end Go.Proofs.Ytkgijkfcmbpgpaa.Giv
end

section
namespace Go.Proofs.Ytkgijkfcmbpgpaa.Giv
open Go.RowKit Go.Proofs.YtkgijkfcmbpgpaaW.PrintWords Go.Proofs.YtkgijkfcmbpgpaaW.PrintLast Go.Proofs.YtkgijkfcmbpgpaaW.PrintMore Go.Proofs.Ytkgijkfcmbpgpaa.PWir
set_option linter.unusedVariables false
set_option linter.unusedSimpArgs false

/-- A call of a function value that lies in a slot. -/
theorem goesV_ {P : Program} {ops : Array Oper} {Q : Exit → Act → World → Prop} {rest : List Oper} {oi : Oper} {a : Act} {w : World} (N : Option Tmp) (hd : oi.dst = N) (hg : oi.guard = none) {f : FuncId} {fn : Func} {v : Operand} {as_ : Array Operand} {ts : Array TypeId} (hf : P.funcs[f]? = some fn) (hname : (fn.name == "runtime.NumGoroutine") = false) (hb : fn.body.isSome = true) (args : Array Value)
    (hop : oi.op = .call { callee := .value v, args := as_, argTypes := ts }) (hv : a.eval v = .func (.func f) #[] #[]) (hargs : as_.map a.eval = args)
    (h : Calls P f args w fun e w' => ∃ v, e = .returned v ∧ wpList P ops Q rest (a.put N v) w') : wpList P ops Q (oi :: rest) a w := by
  refine wpList_plain hg fun K hK => ?_
  have he := enters_ hf hname hb args w
  have hrun : (execOp a.eval oi).run P w = .ok (.enter f args) w := by
    unfold execOp
    simp [hop, resolve, hv, Deferred.ofValue, invoke, hargs, he]
  unfold Oper.wp
  rw [hrun, Oper.upon_enter]
  refine h.mono fun e w'' hh => ?_
  obtain ⟨v, rfl, hk⟩ := hh
  subst hd
  exact hK _ _ hk
def SameOK (x : S44) : Prop := isz x ≤ 100000000 → ∀ (y : S44) (A0 : Option Addr) (c0 : Nat) (A1 : Option Addr) (c1 : Nat) (w : World), Kd.C k44 w A0 x.f3.length x.f3 → x.f3.length ≤ c0 → Kd.C k44 w A1 y.f3.length y.f3 → y.f3.length ≤ c1 →
  Calls Try.prog 40 #[.agg #[.bool x.f0, .int .i64 x.f1, .string x.f2, .slice A0 x.f3.length c0], .agg #[.bool y.f0, .int .i64 y.f1, .string y.f2, .slice A1 y.f3.length c1]] w fun e w' => e = .returned (.bool (sameB x y)) ∧ Below w.heap.size w w'
theorem drop_rd (l : List S44) (i : Nat) (h : i < l.length) : l.drop i = rd_T44 l (i : Int) :: l.drop (i + 1) := by
  rw [List.drop_eq_getElem_cons h]
  simp [rd_T44, List.getD_eq_getElem?_getD, h]
theorem rd_mem (l : List S44) (i : Nat) (h : i < l.length) : rd_T44 l (i : Int) ∈ l := by
  simp [rd_T44, List.getD_eq_getElem?_getD, h]
theorem sameL_len : ∀ (xs ys : List S44), xs.length ≠ ys.length → sameL xs ys = false
  | [], [], h => absurd rfl h
  | [], _ :: _, _ => by rw [sameL]
  | _ :: _, [], _ => by rw [sameL]
  | x :: xs, y :: ys, h => by rw [sameL, sameL_len xs ys (by simpa using h)]; simp
set_option maxHeartbeats 8000000 in
set_option maxRecDepth 100000 in
theorem eqfunc (xs ys : List S44) (hz : iszL xs ≤ 100000000) (hS : ∀ x ∈ xs, SameOK x) (A0 : Option Addr) (c0 : Nat) (A1 : Option Addr) (c1 : Nat) (w : World) (hr0 : Kd.C k44 w A0 xs.length xs) (hc0 : xs.length ≤ c0) (hr1 : Kd.C k44 w A1 ys.length ys) (hc1 : ys.length ≤ c1) :
    Calls Try.prog 58 #[.slice A0 xs.length c0, .slice A1 ys.length c1, .func (.func 40) #[] #[]] w fun e w' => e = .returned (.bool (sameL xs ys)) ∧ Below w.heap.size w w' := by
  have hu44 := Try.underlying44
  have hzl := iszL_len xs
  have HZ := Aside0.mk hz
  have hxl : (xs.length : Int) ≤ 100000000 := by omega
  clear hz hzl
  have HR0 := Aside0.mk hr0
  have HR1 := Aside0.mk hr1
  have HS := Aside0.mk hS
  have HL0 := Aside0.mk hc0
  have HL1 := Aside0.mk hc1
  clear hr0 hr1 hS hc0 hc1
  have HB0 := Aside0.mk (Below.refl w.heap.size w)
  by_cases hl : xs.length = ys.length
  case neg =>
    have t1 : ((xs.length : Int) != (ys.length : Int)) = true := by simp; omega
    have t2 : (xs.length != ys.length) = true := by simp; omega
    have t4 : (xs.length == ys.length) = false := by simp; omega
    have t5 : ((xs.length : Int) == (ys.length : Int)) = false := by simp; omega
    have t6 : (xs.length = ys.length) = False := eq_false hl
    have t3 := sameL_len xs ys hl
    have T3 := Aside0.mk t3
    clear t3 hl
    go_enter Try.func58, Try.ntmps58
    go_wp2
    go_ret
    exact ⟨by rw [T3.out]; rfl, Below.refl _ _⟩
  have t1 : ((xs.length : Int) != (ys.length : Int)) = false := by simp; omega
  have t2 : (xs.length != ys.length) = false := by simp; omega
  have HL := Aside0.mk hl
  clear hl
  go_enter Try.func58, Try.ntmps58
  go_wp2
  go_loopw [17] (fun v17 wr => ∃ i : Nat, v17 = .int .i64 i ∧ Aside0 (i ≤ xs.length) ∧ Aside0 (sameL xs ys = sameL (xs.drop i) (ys.drop i)) ∧ Aside0 (Below w.heap.size w wr)) (fun v17 _ => xs.length - (intOf v17).toNat)
  case atStart => exact ⟨0, rfl, ⟨Nat.zero_le _⟩, ⟨rfl⟩, HB0⟩
  case round =>
    clear HB0
    obtain ⟨i, rfl, HI, HE, HB⟩ := hrel
    by_cases hlt : i < xs.length
    · have hlt2 : i < ys.length := by have := HL.out; omega
      obtain ⟨ad0, A3, c3, e0, hx0, hx1, hx2, hx3, hl3, hi3⟩ := at_T44 HR0.out (i : Int) (by omega) (by omega)
      obtain ⟨ad1, B3, d3, e1, hy0, hy1, hy2, hy3, hm3, hj3⟩ := at_T44 HR1.out (i : Int) (by omega) (by omega)
      cases e0
      cases e1
      simp only [Int.toNat_natCast] at hx0 hx1 hx2 hx3 hy0 hy1 hy2 hy3
      have hsx := HS.out _ (rd_mem xs i hlt) (Nat.le_trans (iszL_mem xs _ (rd_mem xs i hlt)) HZ.out)
      have hE := HE.out
      rw [drop_rd xs i hlt, drop_rd ys i hlt2, sameL] at hE
      obtain ⟨x, hx⟩ : ∃ x, x = rd_T44 xs (i : Int) := ⟨_, rfl⟩
      obtain ⟨y, hy⟩ : ∃ y, y = rd_T44 ys (i : Int) := ⟨_, rfl⟩
      rw [← hx] at hx0 hx1 hx2 hx3 hl3 hi3 hsx hE
      rw [← hy] at hy0 hy1 hy2 hy3 hm3 hj3 hE
      clear hx hy
      replace hx0 := (HB.out.cell (World.block_lt_of_cell? w _ hx0)).trans hx0
      replace hx1 := (HB.out.cell (World.block_lt_of_cell? w _ hx1)).trans hx1
      replace hx2 := (HB.out.cell (World.block_lt_of_cell? w _ hx2)).trans hx2
      replace hx3 := (HB.out.cell (World.block_lt_of_cell? w _ hx3)).trans hx3
      have HE2 := Aside0.mk hE
      have HX := Aside0.mk (hsx y A3 c3 B3 d3)
      have HX3 := Aside0.mk hi3
      have HXl := Aside0.mk hl3
      have HY3 := Aside0.mk hj3
      have HYl := Aside0.mk hm3
      have HY := Aside0.mk (And.intro hy0 (And.intro hy1 (And.intro hy2 hy3)))
      have p1 : (0 ≤ (i : Int)) = True := eq_true (by omega)
      have q1 : ((i : Int) < (xs.length : Int)) = True := eq_true (by omega)
      clear hE hsx hi3 hl3 hj3 hm3 hy0 hy1 hy2 hy3
      go_upto_region 6 with (first | ((with_reducible refine gate_dst (N := 8) rfl ?_); refine box_event ?hg (N := 8) ?hd (cs := #[.bool false, .int .i64 0, .string (⟨#[]⟩ : ByteArray), .slice none 0 0]) (t := 44) ?hr ?_; (case hd => rfl); (case hg => rfl); (case hr => first | (go_simp; done) | (go_simp; rfl)); intro gb8 hg w8 hbox hb; have n0_ := Aside0.mk (below_step HB.out hb); have n1_ := Aside0.mk hbox; have n2_ := Aside0.mk ((by rw [hg]; exact below_size HB.out) : w.heap.size ≤ gb8); clear HB; have HB := n0_; have BK8 := n1_; have GE8 := n2_; clear n0_ n1_ n2_; clear hb hbox hg; have hcz0 : w8.cell? ⟨gb8, 0, none⟩ = some (.bool false) := (blk_cell BK8.out 0).trans rfl; have hcz1 : w8.cell? ⟨gb8, 1, none⟩ = some (.int .i64 0) := (blk_cell BK8.out 1).trans rfl; have hcz2 : w8.cell? ⟨gb8, 2, none⟩ = some (.string (⟨#[]⟩ : ByteArray)) := (blk_cell BK8.out 2).trans rfl; have hcz3 : w8.cell? ⟨gb8, 3, none⟩ = some (.slice none 0 0) := (blk_cell BK8.out 3).trans rfl; have hfz0 := blk_frozen BK8.out 0; have hfz1 := blk_frozen BK8.out 1; have hfz2 := blk_frozen BK8.out 2; have hfz3 := blk_frozen BK8.out 3))
      obtain ⟨w9, hw9⟩ : ∃ w9, w9 = (((w8.setCell ⟨gb8, 0, none⟩ (.bool x.f0)).setCell ⟨gb8, 1, none⟩ (.int .i64 x.f1)).setCell ⟨gb8, 2, none⟩ (.string x.f2)).setCell ⟨gb8, 3, none⟩ (.slice A3 x.f3.length c3) := ⟨_, rfl⟩
      rw [← hw9]
      have hk8 : w9.heap[gb8]? = some (.cells #[.bool x.f0, .int .i64 x.f1, .string x.f2, .slice A3 x.f3.length c3] 44 (0, 0)) := by
        rw [hw9]
        refine blk_put (cs := #[.bool x.f0, .int .i64 x.f1, .string x.f2, .slice none 0 0]) ?_ 3 _ rfl
        refine blk_put (cs := #[.bool x.f0, .int .i64 x.f1, .string (⟨#[]⟩ : ByteArray), .slice none 0 0]) ?_ 2 _ rfl
        refine blk_put (cs := #[.bool x.f0, .int .i64 0, .string (⟨#[]⟩ : ByteArray), .slice none 0 0]) ?_ 1 _ rfl
        refine blk_put (cs := #[.bool false, .int .i64 0, .string (⟨#[]⟩ : ByteArray), .slice none 0 0]) ?_ 0 _ rfl
        exact BK8.out
      have hb9 : Below w.heap.size w w9 := by
        rw [hw9]
        repeat (first | exact HB.out | refine below_set ?_ GE8.out)
      clear HB BK8 hcz0 hcz1 hcz2 hcz3 hfz0 hfz1 hfz2 hfz3 hw9 hx0 hx1 hx2 hx3 p1 q1
      have HB := Aside0.mk hb9
      have BK8 := Aside0.mk hk8
      have hy0 := (HB.out.cell (World.block_lt_of_cell? w _ HY.out.1)).trans HY.out.1
      have hy1 := (HB.out.cell (World.block_lt_of_cell? w _ HY.out.2.1)).trans HY.out.2.1
      have hy2 := (HB.out.cell (World.block_lt_of_cell? w _ HY.out.2.2.1)).trans HY.out.2.2.1
      have hy3 := (HB.out.cell (World.block_lt_of_cell? w _ HY.out.2.2.2)).trans HY.out.2.2.2
      have p1 : (0 ≤ (i : Int)) = True := eq_true (by omega)
      have q1 : ((i : Int) < (ys.length : Int)) = True := eq_true (by omega)
      clear hb9 hk8
      go_upto_region 7 with (first | ((with_reducible refine gate_dst (N := 9) rfl ?_); refine box_event ?hg (N := 9) ?hd (cs := #[.bool false, .int .i64 0, .string (⟨#[]⟩ : ByteArray), .slice none 0 0]) (t := 44) ?hr ?_; (case hd => rfl); (case hg => rfl); (case hr => first | (go_simp; done) | (go_simp; rfl)); intro gb9 hg w10 hbox hb; have n0_ := Aside0.mk (below_step HB.out hb); have n1_ := Aside0.mk hbox; have n2_ := Aside0.mk ((by rw [hg]; exact below_size HB.out) : w.heap.size ≤ gb9); have n3_ := Aside0.mk (blk_below (g := gb8) (o := .cells #[.bool x.f0, .int .i64 x.f1, .string x.f2, .slice A3 x.f3.length c3] 44 (0, 0)) BK8.out hb); have n4_ := Aside0.mk ((by rw [hg]; exact Nat.ne_of_lt (blk_lt (g := gb8) (o := .cells #[.bool x.f0, .int .i64 x.f1, .string x.f2, .slice A3 x.f3.length c3] 44 (0, 0)) BK8.out)) : gb8 ≠ gb9); clear HB BK8; have HB := n0_; have BK9 := n1_; have GE9 := n2_; have BK8 := n3_; have NB := n4_; clear n0_ n1_ n2_ n3_ n4_; clear hb hbox hg; have hcz0 : w10.cell? ⟨gb9, 0, none⟩ = some (.bool false) := (blk_cell BK9.out 0).trans rfl; have hcz1 : w10.cell? ⟨gb9, 1, none⟩ = some (.int .i64 0) := (blk_cell BK9.out 1).trans rfl; have hcz2 : w10.cell? ⟨gb9, 2, none⟩ = some (.string (⟨#[]⟩ : ByteArray)) := (blk_cell BK9.out 2).trans rfl; have hcz3 : w10.cell? ⟨gb9, 3, none⟩ = some (.slice none 0 0) := (blk_cell BK9.out 3).trans rfl; have hfz0 := blk_frozen BK9.out 0; have hfz1 := blk_frozen BK9.out 1; have hfz2 := blk_frozen BK9.out 2; have hfz3 := blk_frozen BK9.out 3))
      obtain ⟨w11, hw11⟩ : ∃ w11, w11 = (((w10.setCell ⟨gb9, 0, none⟩ (.bool y.f0)).setCell ⟨gb9, 1, none⟩ (.int .i64 y.f1)).setCell ⟨gb9, 2, none⟩ (.string y.f2)).setCell ⟨gb9, 3, none⟩ (.slice B3 y.f3.length d3) := ⟨_, rfl⟩
      rw [← hw11]
      have hk9 : w11.heap[gb9]? = some (.cells #[.bool y.f0, .int .i64 y.f1, .string y.f2, .slice B3 y.f3.length d3] 44 (0, 0)) := by
        rw [hw11]
        refine blk_put (cs := #[.bool y.f0, .int .i64 y.f1, .string y.f2, .slice none 0 0]) ?_ 3 _ rfl
        refine blk_put (cs := #[.bool y.f0, .int .i64 y.f1, .string (⟨#[]⟩ : ByteArray), .slice none 0 0]) ?_ 2 _ rfl
        refine blk_put (cs := #[.bool y.f0, .int .i64 0, .string (⟨#[]⟩ : ByteArray), .slice none 0 0]) ?_ 1 _ rfl
        refine blk_put (cs := #[.bool false, .int .i64 0, .string (⟨#[]⟩ : ByteArray), .slice none 0 0]) ?_ 0 _ rfl
        exact BK9.out
      have hk8 : w11.heap[gb8]? = some (.cells #[.bool x.f0, .int .i64 x.f1, .string x.f2, .slice A3 x.f3.length c3] 44 (0, 0)) := by
        rw [hw11]
        repeat (first | exact BK8.out | refine blk_far ?_ NB.out _)
      have hb11 : Below w.heap.size w w11 := by
        rw [hw11]
        repeat (first | exact HB.out | refine below_set ?_ GE9.out)
      clear HB BK8 BK9 hcz0 hcz1 hcz2 hcz3 hfz0 hfz1 hfz2 hfz3 hw11 hy0 hy1 hy2 hy3 p1 q1
      have HB := Aside0.mk hb11
      have hcx0 : w11.cell? ⟨gb8, 0, none⟩ = some (.bool x.f0) := (blk_cell hk8 0).trans rfl
      have hcx1 : w11.cell? ⟨gb8, 1, none⟩ = some (.int .i64 x.f1) := (blk_cell hk8 1).trans rfl
      have hcx2 : w11.cell? ⟨gb8, 2, none⟩ = some (.string x.f2) := (blk_cell hk8 2).trans rfl
      have hcx3 : w11.cell? ⟨gb8, 3, none⟩ = some (.slice A3 x.f3.length c3) := (blk_cell hk8 3).trans rfl
      have hcy0 : w11.cell? ⟨gb9, 0, none⟩ = some (.bool y.f0) := (blk_cell hk9 0).trans rfl
      have hcy1 : w11.cell? ⟨gb9, 1, none⟩ = some (.int .i64 y.f1) := (blk_cell hk9 1).trans rfl
      have hcy2 : w11.cell? ⟨gb9, 2, none⟩ = some (.string y.f2) := (blk_cell hk9 2).trans rfl
      have hcy3 : w11.cell? ⟨gb9, 3, none⟩ = some (.slice B3 y.f3.length d3) := (blk_cell hk9 3).trans rfl
      clear hb11 hk8 hk9
      obtain ⟨b, hb⟩ : ∃ b, b = sameB x y := ⟨_, rfl⟩
      rw [← hb] at HX HE2
      clear hb
      cases b with
      | true =>
        have e2 : sameL xs ys = sameL (xs.drop (i + 1)) (ys.drop (i + 1)) := by rw [HE2.out, Bool.true_and]
        have HE4 := Aside0.mk e2
        clear e2
        go_wp2_with (first | ((with_reducible refine gate_dst (N := 29) rfl ?_); go_loud (refine goesV_ (f := 40) (v := .tmp 26) (some 29) rfl rfl Try.func40 (by kernel_rfl) rfl #[.agg #[.bool x.f0, .int .i64 x.f1, .string x.f2, .slice A3 x.f3.length c3], .agg #[.bool y.f0, .int .i64 y.f1, .string y.f2, .slice B3 y.f3.length d3]] rfl rfl (by (try simp only [List.map_toArray, List.map_cons, List.map_nil]); first | done | rfl) ?_; (with_reducible refine (HX.out _ (Kd.C_below HX3.out HB.out) HXl.out (Kd.C_below HY3.out HB.out) HYl.out).mono ?_); rintro e w12 ⟨rfl, hb⟩; refine ⟨_, rfl, ?_⟩; have n0_ := Aside0.mk (below_step HB.out hb); clear HB; have HB := n0_; clear n0_ hb)))
        go_roundw
        case rel => exact ⟨i + 1, by go_num, ⟨by omega⟩, HE4, HB⟩
        case measure => simp [intOf]; omega
      | false =>
        have e2 : sameL xs ys = false := by rw [HE2.out, Bool.false_and]
        have HE4 := Aside0.mk e2
        clear e2
        go_wp2_with (first | ((with_reducible refine gate_dst (N := 29) rfl ?_); go_loud (refine goesV_ (f := 40) (v := .tmp 26) (some 29) rfl rfl Try.func40 (by kernel_rfl) rfl #[.agg #[.bool x.f0, .int .i64 x.f1, .string x.f2, .slice A3 x.f3.length c3], .agg #[.bool y.f0, .int .i64 y.f1, .string y.f2, .slice B3 y.f3.length d3]] rfl rfl (by (try simp only [List.map_toArray, List.map_cons, List.map_nil]); first | done | rfl) ?_; (with_reducible refine (HX.out _ (Kd.C_below HX3.out HB.out) HXl.out (Kd.C_below HY3.out HB.out) HYl.out).mono ?_); rintro e w12 ⟨rfl, hb⟩; refine ⟨_, rfl, ?_⟩; have n0_ := Aside0.mk (below_step HB.out hb); clear HB; have HB := n0_; clear n0_ hb)))
        go_ret
        exact ⟨by rw [HE4.out]; rfl, HB.out⟩
    · have hge : xs.length ≤ i := by omega
      have t3 : decide ((i : Int) < (xs.length : Int)) = false := decide_eq_false (by omega)
      have HE3 := Aside0.mk (show sameL xs ys = true by rw [HE.out, List.drop_eq_nil_of_le hge, List.drop_eq_nil_of_le (by have := HL.out; omega), sameL])
      go_wp2
      go_ret
      exact ⟨by rw [HE3.out]; rfl, HB.out⟩
end Go.Proofs.Ytkgijkfcmbpgpaa.Giv
end

section
namespace Go.Proofs.Ytkgijkfcmbpgpaa.Giv
open Go.RowKit Go.Proofs.YtkgijkfcmbpgpaaW.PrintWords Go.Proofs.YtkgijkfcmbpgpaaW.PrintLast Go.Proofs.YtkgijkfcmbpgpaaW.PrintMore Go.Proofs.Ytkgijkfcmbpgpaa.PWir
set_option linter.unusedVariables false
set_option linter.unusedSimpArgs false
theorem BV.below {B b : Nat} {p v : Value} {l : List Value} {w w' : World} (h : BV B b p v l w) (hb : Below w.heap.size w w') : BV B b p v l w' :=
  h.kept (hb.block b h.lt) fun k hk => hb.block k (h.rlt hk)
theorem Wrote.first {B b : Nat} {p v : Value} {l : List Value} {w : World} (hp : p = .pointer none ∨ p = .pointer (some ⟨b, 0, none⟩)) (h : BV B b p v l w) (hB : B ≤ w.heap.size) (c : Int) (hl : l.length + 1 ≤ 140737488355328) :
    Calls Try.prog 64 #[.pointer (some ⟨b, 0, none⟩), .int .u8 c] w fun e w' => e = .returned .nilIface ∧ Wrote B b v w (l ++ [.int .u8 c]) w' := by
  refine (w_byte B b p v l c w hp h hl hB).mono ?_
  rintro e w' ⟨rfl, h1, h2⟩
  exact ⟨rfl, h1, h2⟩
theorem Wrote.length {B b n : Nat} {v : Value} {w w1 : World} {m : List Value} (h : Wrote B b v w m w1) (hB : B ≤ w.heap.size) (hn : n < 16384) (hl : m.length + 2 ≤ 140737488355328) :
    Calls Try.prog 65 #[.pointer (some ⟨b, 0, none⟩), .int .i64 (n : Int)] w1 fun e w' => e = .returned (.tuple #[]) ∧ Wrote B b v w (m ++ Lib.byteCells (lenL n)) w' := by
  obtain ⟨hb, v', hv, hf⟩ := h
  have hs := hf.size
  refine (w_length B b n v' m w1 hn hv hl (by omega)).mono ?_
  rintro e w' ⟨rfl, hb2, v'', hv2, hf2⟩
  exact ⟨rfl, hb.trans hb2, v'', hv2, hf.trans (hf2.mono hs)⟩
theorem Wrote.string {B b : Nat} {v : Value} {w w1 : World} {m : List Value} (h : Wrote B b v w m w1) (hB : B ≤ w.heap.size) (s : ByteArray) (h0 : 0 < m.length) (hl : m.length + s.size ≤ 140737488355328) :
    Calls Try.prog 51 #[.pointer (some ⟨b, 0, none⟩), .string s] w1 fun e w' => e = .returned (.tuple #[.int .i64 s.size, .nilIface]) ∧ Wrote B b v w (m ++ Lib.strCells s) w' := by
  obtain ⟨hb, v', hv, hf⟩ := h
  have hs := hf.size
  refine (w_string B b v' m s w1 hv h0 hl (by omega)).mono ?_
  rintro e w' ⟨rfl, hb2, v'', hv2, hf2⟩
  exact ⟨rfl, hb.trans hb2, v'', hv2, hf.trans (hf2.mono hs)⟩
/-- Another block lives on. -/
theorem Wrote.blk {B b g : Nat} {v : Value} {w w1 : World} {m : List Value} {o : Obj} (h : Wrote B b v w m w1) (hg : w.heap[g]? = some o) (h1 : g ≠ b) (h2 : v.ownBlock ≠ some g) : w1.heap[g]? = some o := by
  obtain ⟨hb, v', hv, hf⟩ := h
  exact hf.keep g o (Array.getElem?_eq_some_iff.1 hg).1 hg h1 h2
theorem Wrote.base {B b : Nat} {v : Value} {w wr w' : World} {m : List Value} (h : Wrote B b v wr m w') (hb : Below w.heap.size w wr) (hB : B ≤ w.heap.size) : Wrote B b v w m w' := by
  obtain ⟨h1, v', hv, hf⟩ := h
  exact ⟨(hb.mono hB).trans h1, v', hv, (Fr.of_below hb (Nat.le_refl _) hb.size).trans (hf.mono hb.size)⟩
theorem strCells_byte (s : ByteArray) : Lib.strCells s = Lib.byteCells s.data.toList := rfl
mutual
theorem wr_len : ∀ x : S44, (wr x).length ≤ 4 * isz x
  | ⟨n, t, s, l⟩ => by
    have h1 := wrL_len l
    have h2 := lenL_len (wrL l).length
    have h3 := lenL_len s.data.toList.length
    have h4 : s.data.toList.length = s.size := by simp
    rw [wr, isz]
    split <;> simp only [List.length_cons, List.length_append] <;> omega
theorem wrL_len : ∀ l : List S44, (wrL l).length ≤ 4 * iszL l
  | [] => by rw [wrL]; simp
  | x :: r => by
    have h1 := wr_len x
    have h2 := wrL_len r
    rw [wrL, iszL]
    simp only [List.length_append]
    omega
end
def PutOK (x : S44) : Prop := ∀ d, shp x d = true → isz x ≤ 3000 → ∀ (w0 w : World) (B b : Nat) (p v : Value) (l : List Value) (A : Option Addr) (c : Nat), (p = .pointer none ∨ p = .pointer (some ⟨b, 0, none⟩)) → BV B b p v l w → l.length ≤ 1000000 → w0.heap.size ≤ B → B ≤ w.heap.size → Below w0.heap.size w0 w →
  Kd.C k44 w0 A x.f3.length x.f3 → x.f3.length ≤ c → Calls Try.prog 55 #[.pointer (some ⟨b, 0, none⟩), .agg #[.bool x.f0, .int .i64 x.f1, .string x.f2, .slice A x.f3.length c]] w fun e w' => e = .returned (.tuple #[]) ∧ Wrote B b v w (l ++ Lib.byteCells (wr x)) w'
theorem wr_leaf (x : S44) (h : x.f0 = false) : wr x = tagB false x.f1 :: (lenL x.f2.data.toList.length ++ x.f2.data.toList) := by cases x; simp only at h; subst h; rw [wr]; simp
theorem wr_node (x : S44) (h : x.f0 = true) : wr x = tagB true x.f1 :: (lenL (wrL x.f3).length ++ wrL x.f3) := by cases x; simp only at h; subst h; rw [wr]; simp
theorem shp_tag (x : S44) (d : Nat) (h : shp x d = true) : 1 ≤ x.f1 ∧ x.f1 ≤ 127 := by
  cases x
  rw [shp] at h
  simp only [Bool.and_eq_true, decide_eq_true_eq] at h
  exact ⟨h.1.1.1.2, h.1.1.2⟩
theorem shp_kids (x : S44) (d : Nat) (h : shp x d = true) : shpL x.f3 (d + 1) = true := by
  cases x
  rw [shp] at h
  simp only [Bool.and_eq_true, decide_eq_true_eq] at h
  exact h.2
theorem shpL_mem : ∀ (l : List S44) (d : Nat), shpL l d = true → ∀ x ∈ l, shp x d = true
  | y :: r, d, h, x, hx => by
    rw [shpL] at h
    simp only [Bool.and_eq_true] at h
    rcases List.mem_cons.1 hx with rfl | hx
    · exact h.1
    · exact shpL_mem r d h.2 x hx
theorem isz_eq (x : S44) : isz x = 1 + x.f2.size + iszL x.f3 := by cases x; rw [isz]
theorem tag_leaf (t : Int) (h : 1 ≤ t ∧ t ≤ 127) : ((tagB false t).toNat : Int) = t := by
  unfold tagB
  simp
  omega
theorem tag_node (t : Int) (h : 1 ≤ t ∧ t ≤ 127) : ((tagB true t).toNat : Int) = t + 128 := by
  unfold tagB
  simp
  omega
set_option maxHeartbeats 8000000 in
set_option maxRecDepth 100000 in
theorem put_leaf (x : S44) (h0 : x.f0 = false) : PutOK x := by
  intro d hd hz w0 w B b p v l A c hp hv hl hw0 hB hb0 hC hc
  have hu44 := Try.underlying44
  have ht := shp_tag x d hd
  have hle := wr_len x
  have hwr := wr_leaf x h0
  have hs : x.f2.size ≤ 3000 := by rw [isz_eq] at hz; omega
  have hsl : x.f2.data.toList.length = x.f2.size := by simp
  have HT := Aside0.mk (tag_leaf x.f1 ht)
  have hcells : Lib.byteCells (wr x) = [.int .u8 x.f1] ++ (Lib.byteCells (lenL x.f2.size) ++ Lib.strCells x.f2) := by
    rw [hwr, hsl, strCells_byte, ← byteCells_app]
    simp [Lib.byteCells, HT.out]
  have HW := Aside0.mk hcells
  have hln := lenL_len x.f2.size
  have hlc : (Lib.byteCells (lenL x.f2.size)).length = (lenL x.f2.size).length := by simp [Lib.byteCells]
  have HLC := Aside0.mk (And.intro hln hlc)
  have HP := Aside0.mk hp
  have HV := Aside0.mk hv
  have HZ := Aside0.mk h0
  have ht1 := ht.1
  have ht2 := ht.2
  clear hwr hcells hsl hC hc hd hle hz hp hv hln hlc ht
  have HB := Aside0.mk (Below.refl w.heap.size w)
  obtain ⟨f0, f1, f2, f3⟩ := x
  simp only at h0 ht1 ht2 hs HW HLC ⊢
  subst h0
  clear HZ HT hb0
  go_enter Try.func55, Try.ntmps55
  go_upto_region 2 with (first | ((with_reducible refine gate_dst (N := 3) rfl ?_); refine box_event ?hg (N := 3) ?hd (cs := #[.bool false, .int .i64 f1, .string f2, .slice A f3.length c]) (t := 44) ?hr ?_; (case hd => rfl); (case hg => rfl); (case hr => first | (go_simp; done) | (go_simp; rfl)); intro gb3 hg w8 hbox hb; have n0_ := Aside0.mk hb; have n1_ := Aside0.mk hbox; have n2_ := Aside0.mk ((by rw [hg]; exact Nat.le_refl _) : w.heap.size ≤ gb3); clear HB; have HB := n0_; have BK3 := n1_; have GE3 := n2_; clear n0_ n1_ n2_; clear hb hbox hg; have hcz0 : w8.cell? ⟨gb3, 0, none⟩ = some (.bool false) := (blk_cell BK3.out 0).trans rfl))
  have hv8 := HV.out.below HB.out
  have hs8 : w.heap.size ≤ w8.heap.size := HB.out.size
  have hne : gb3 ≠ b := by have := HV.out.lt; have := GE3.out; omega
  have hnr : v.ownBlock ≠ some gb3 := fun e => by have := HV.out.rlt e; have := GE3.out; omega
  have HN := Aside0.mk (And.intro hne hnr)
  have HV8 := Aside0.mk hv8
  have HP8 := Aside0.mk (show B ≤ w8.heap.size from by omega)
  have hcz1 : w8.cell? ⟨gb3, 1, none⟩ = some (.int .i64 f1) := (blk_cell BK3.out 1).trans rfl
  clear hcz0 hne hnr hv8 hs8 HV
  go_upto_region 3 with (first | (go_at_call 64; refine (Wrote.first HP.out HV8.out HP8.out _ (by omega)).mono ?_; rintro e w9 ⟨rfl, hw⟩; have HR := Aside0.mk hw; clear hw))
  have hk3 := HR.out.blk BK3.out HN.out.1 HN.out.2
  have hcy2 : w9.cell? ⟨gb3, 2, none⟩ = some (.string f2) := (blk_cell hk3 2).trans rfl
  have HK3 := Aside0.mk hk3
  clear hk3 hcz1
  go_upto_region 4 with (first | (go_at_call 65; refine (HR.out.length HP8.out (n := f2.size) (by omega) (by simp; omega)).mono ?_; rintro e w10 ⟨rfl, hw⟩; have HR2 := Aside0.mk hw; clear hw HR; have HR := HR2; clear HR2))
  have hk3 := HR.out.blk BK3.out HN.out.1 HN.out.2
  have hcx2 : w10.cell? ⟨gb3, 2, none⟩ = some (.string f2) := (blk_cell hk3 2).trans rfl
  clear hk3 hcy2 HK3
  go_wp2_with (first | (go_at_call 51; refine (HR.out.string HP8.out f2 (by simp; omega) (by have := HLC.out; simp; omega)).mono ?_; rintro e w11 ⟨rfl, hw⟩; have HR2 := Aside0.mk hw; clear hw HR; have HR := HR2; clear HR2))
  refine bodyPost_ret (results_none rfl _ _ _) rfl ⟨rfl, ?_⟩
  have q := HR.out.base HB.out hB
  rw [HW.out]
  simpa [List.append_assoc] using q
theorem wrL_take (l : List S44) : ∀ i, (h : i < l.length) → wrL (l.take (i + 1)) = wrL (l.take i) ++ wr (rd_T44 l (i : Int)) := by
  induction l with
  | nil => intro i h; exact absurd h (by simp)
  | cons x r ih =>
    intro i h
    cases i with
    | zero => simp [wrL, rd_T44]
    | succ i =>
      have h2 := ih i (by simpa using h)
      rw [List.take_succ_cons, wrL, h2, List.take_succ_cons, wrL, List.append_assoc]
      simp [rd_T44]
theorem iszL_take (l : List S44) (i : Nat) : iszL (l.take i) ≤ iszL l := by
  induction l generalizing i with
  | nil => simp
  | cons x r ih =>
    cases i with
    | zero => simp [iszL]
    | succ i =>
      have := ih i
      rw [List.take_succ_cons, iszL, iszL]
      omega
/-- The inner builder's text is taken: the outer one lives on. -/
theorem Wrote.strIn {B b gb : Nat} {p pi v vi : Value} {l mm m : List Value} {w wr w2 w3 : World} (h : Wrote B b v wr m w2) (hb : Below w.heap.size w wr) (hB : B ≤ w.heap.size) (hvi : BV gb gb pi vi mm wr) (hv : BV B b p v l w) (hg : w.heap.size ≤ gb)
    (hfr : ∀ k o, w2.heap[k]? = some o → vi.ownBlock ≠ some k → w3.heap[k]? = some o) (hbl : Below gb w2 w3) (hsz : w3.heap.size = w2.heap.size) : Wrote B b v w m w3 := by
  obtain ⟨h1, v', hv', hf⟩ := h
  have hlow : ∀ k, k < gb → vi.ownBlock ≠ some k := fun k hk e => by have := (hvi.row e).1; omega
  have hd : ∀ k, v'.ownBlock = some k → vi.ownBlock ≠ some k := by
    intro k hk e
    have h2 := (hvi.row e).1
    have h3 := hvi.rlt e
    rcases hf.row with q | ⟨r, q, hr⟩
    · rw [q] at hk
      have := hv.rlt hk
      omega
    · rw [q] at hk
      have := Option.some.inj hk
      omega
  have hb3 : w3.heap[b]? = w2.heap[b]? := by rw [hv'.2.1]; exact hfr b _ hv'.2.1 (hlow b (by have := hv.lt; omega))
  refine ⟨((hb.mono hB).trans h1).trans (hbl.mono (by omega)), v', hv'.kept hb3 fun k hk => ?_, ?_⟩
  · obtain ⟨_, c, hc⟩ := hv'.row hk
    rw [hc]
    exact hfr k _ hc (hd k hk)
  · refine ((Fr.of_below hb (Nat.le_refl _) hb.size).trans (hf.mono hb.size)).trans ⟨fun k o hk ho _ _ => hfr k o ho (hlow k (by omega)), .inl rfl, by omega⟩
theorem wr_ne (x : S44) : wr x ≠ [] := by cases x; rw [wr]; split <;> simp
/-- The builder inside, so far. -/
def InAt (gb : Nat) (m : List UInt8) (wr : World) : Prop := ∃ p v, (p = .pointer none ∨ p = .pointer (some ⟨gb, 0, none⟩)) ∧ (m = [] → v = .slice none 0 0) ∧ BV gb gb p v (Lib.byteCells m) wr
set_option maxHeartbeats 8000000 in
set_option maxRecDepth 100000 in
theorem put_node (x : S44) (h0 : x.f0 = true) (hS : ∀ y ∈ x.f3, PutOK y) : PutOK x := by
  intro d hd hz w0 w B b p v l A c hp hv hl hw0 hB hb0 hC hc
  have hu44 := Try.underlying44
  have ht := shp_tag x d hd
  have hk := shp_kids x d hd
  have hwr := wr_node x h0
  have hle := wrL_len x.f3
  have hzl : iszL x.f3 ≤ 3000 := by rw [isz_eq] at hz; omega
  have HT := Aside0.mk (tag_node x.f1 ht)
  have hcells : Lib.byteCells (wr x) = [.int .u8 (x.f1 + 128)] ++ (Lib.byteCells (lenL (wrL x.f3).length) ++ Lib.byteCells (wrL x.f3)) := by
    rw [hwr, ← byteCells_app]
    simp [Lib.byteCells, HT.out]
  have HW := Aside0.mk hcells
  have hln := lenL_len (wrL x.f3).length
  have hlc : (Lib.byteCells (lenL (wrL x.f3).length)).length = (lenL (wrL x.f3).length).length := by simp [Lib.byteCells]
  have HLC := Aside0.mk (And.intro hln hlc)
  have HP := Aside0.mk hp
  have HV := Aside0.mk hv
  have HS := Aside0.mk hS
  have HK := Aside0.mk hk
  have HC := Aside0.mk hC
  have HB0 := Aside0.mk hb0
  have HZL := Aside0.mk hzl
  have HLE := Aside0.mk hle
  have hxl := iszL_len x.f3
  have hxl2 : (x.f3.length : Int) ≤ 3000 := by omega
  have ht1 := ht.1
  have ht2 := ht.2
  clear hwr hcells hd hle hz hp hv hln hlc ht hS hk hC hb0 hzl hxl hc
  have HB := Aside0.mk (Below.refl w.heap.size w)
  obtain ⟨f0, f1, f2, f3⟩ := x
  simp only at h0 ht1 ht2 HW HLC HS HK HC HZL HLE hxl2 ⊢
  subst h0
  clear HT
  go_enter Try.func55, Try.ntmps55
  go_upto_region 5 with (first | ((with_reducible refine gate_dst (N := 3) rfl ?_); refine box_event ?hg (N := 3) ?hd (cs := #[.bool true, .int .i64 f1, .string f2, .slice A f3.length c]) (t := 44) ?hr ?_; (case hd => rfl); (case hg => rfl); (case hr => first | (go_simp; done) | (go_simp; rfl)); intro gb3 hg w8 hbox hb; have n0_ := Aside0.mk hb; have n1_ := Aside0.mk hbox; have n2_ := Aside0.mk ((by rw [hg]; exact Nat.le_refl _) : w.heap.size ≤ gb3); clear HB; have HB := n0_; have BK3 := n1_; have GE3 := n2_; clear n0_ n1_ n2_; clear hb hbox hg; have hcz0 : w8.cell? ⟨gb3, 0, none⟩ = some (.bool true) := (blk_cell BK3.out 0).trans rfl))
  have hne : gb3 ≠ b := by have := HV.out.lt; have := GE3.out; omega
  have hnr : v.ownBlock ≠ some gb3 := fun e => by have := HV.out.rlt e; have := GE3.out; omega
  have HN := Aside0.mk (And.intro hne hnr)
  clear hcz0 hne hnr
  go_upto_region 6 with (first | ((with_reducible refine gate_dst (N := 4) rfl ?_); refine box_event ?hg (N := 4) ?hd (cs := #[.pointer none, .slice none 0 0]) (t := 68) ?hr ?_; (case hd => rfl); (case hg => rfl); (case hr => first | (go_simp; done) | (go_simp; rfl)); intro gb4 hg w9 hbox hb; have n0_ := Aside0.mk (below_step HB.out hb); have n1_ := Aside0.mk (blk_below (g := gb3) (o := .cells #[.bool true, .int .i64 f1, .string f2, .slice A f3.length c] 44 (0, 0)) BK3.out hb); have n2_ := Aside0.mk hbox; have n3_ := Aside0.mk ((by rw [hg]; exact below_size HB.out) : w.heap.size ≤ gb4); have n4_ := Aside0.mk ((by rw [hg]; exact blk_lt (g := gb3) (o := .cells #[.bool true, .int .i64 f1, .string f2, .slice A f3.length c] 44 (0, 0)) BK3.out) : gb3 < gb4); clear HB BK3; have HB := n0_; have BK3 := n1_; have BK4 := n2_; have GE4 := n3_; have LT34 := n4_; clear n0_ n1_ n2_ n3_ n4_; clear hb hbox hg))
  have hcy3 : w9.cell? ⟨gb3, 3, none⟩ = some (.slice A f3.length c) := (blk_cell BK3.out 3).trans rfl
  have HI := Aside0.mk (show InAt gb4 [] w9 from ⟨.pointer none, .slice none 0 0, .inl rfl, fun _ => rfl, Nat.le_refl _, BK4.out, by refine ⟨rfl, .inl ⟨rfl, rfl⟩⟩⟩)
  have HGL := Aside0.mk (blk_lt BK4.out)
  have HBB := Aside0.mk (Below.refl gb4 w9)
  go_wp2
  clear hcy3
  go_loopw [27] (fun v27 wr => ∃ i : Nat, v27 = .int .i64 i ∧ Aside0 (i ≤ f3.length) ∧ Aside0 (InAt gb4 (wrL (f3.take i)) wr) ∧ Aside0 (Below gb4 w9 wr) ∧ Aside0 (gb4 < wr.heap.size)) (fun v27 _ => f3.length - (intOf v27).toNat)
  case atStart => exact ⟨0, rfl, ⟨Nat.zero_le _⟩, by simpa [wrL] using HI, HBB, HGL⟩
  case round =>
    clear HI HBB HGL
    obtain ⟨i, rfl, HI, HIn, HBB, HGL⟩ := hrel
    have hwle : w.heap.size ≤ w9.heap.size := HB.out.size
    have HBw := Aside0.mk (show Below w0.heap.size w0 wr from (HB0.out.trans (HB.out.mono (by omega))).trans (HBB.out.mono (by have := GE4.out; omega)))
    by_cases hlt : i < f3.length
    · obtain ⟨ad0, A3, c3, e0, hx0, hx1, hx2, hx3, hl3, hi3⟩ := at_T44 HC.out (i : Int) (by omega) (by omega)
      cases e0
      simp only [Int.toNat_natCast] at hx0 hx1 hx2 hx3
      have hSy := HS.out _ (rd_mem f3 i hlt) (d + 1) (shpL_mem f3 (d + 1) HK.out _ (rd_mem f3 i hlt)) (by have := iszL_mem f3 _ (rd_mem f3 i hlt); have := HZL.out; omega)
      have hwt := wrL_take f3 i hlt
      obtain ⟨y, hy⟩ : ∃ y, y = rd_T44 f3 (i : Int) := ⟨_, rfl⟩
      rw [← hy] at hx0 hx1 hx2 hx3 hl3 hi3 hSy hwt
      clear hy
      have HWT := Aside0.mk hwt
      have HSY := Aside0.mk hSy
      have HC3 := Aside0.mk hi3
      have HL3 := Aside0.mk hl3
      replace hx0 := (HBw.out.cell (World.block_lt_of_cell? w0 _ hx0)).trans hx0
      replace hx1 := (HBw.out.cell (World.block_lt_of_cell? w0 _ hx1)).trans hx1
      replace hx2 := (HBw.out.cell (World.block_lt_of_cell? w0 _ hx2)).trans hx2
      replace hx3 := (HBw.out.cell (World.block_lt_of_cell? w0 _ hx3)).trans hx3
      have p1 : (0 ≤ (i : Int)) = True := eq_true (by omega)
      have q1 : ((i : Int) < (f3.length : Int)) = True := eq_true (by omega)
      have HBr := Aside0.mk (Below.refl wr.heap.size wr)
      clear hwt hSy hi3 hl3 hwle
      go_upto_region 9 with (first | ((with_reducible refine gate_dst (N := 6) rfl ?_); refine box_event ?hg (N := 6) ?hd (cs := #[.bool false, .int .i64 0, .string (⟨#[]⟩ : ByteArray), .slice none 0 0]) (t := 44) ?hr ?_; (case hd => rfl); (case hg => rfl); (case hr => first | (go_simp; done) | (go_simp; rfl)); intro gb8 hg w10 hbox hb; have n0_ := Aside0.mk (below_step HBr.out hb); have n1_ := Aside0.mk hbox; have n2_ := Aside0.mk ((by rw [hg]; exact below_size HBr.out) : wr.heap.size ≤ gb8); clear HBr; have HBr := n0_; have BK8 := n1_; have GE8 := n2_; clear n0_ n1_ n2_; clear hb hbox hg; have hcz0 : w10.cell? ⟨gb8, 0, none⟩ = some (.bool false) := (blk_cell BK8.out 0).trans rfl; have hcz1 : w10.cell? ⟨gb8, 1, none⟩ = some (.int .i64 0) := (blk_cell BK8.out 1).trans rfl; have hcz2 : w10.cell? ⟨gb8, 2, none⟩ = some (.string (⟨#[]⟩ : ByteArray)) := (blk_cell BK8.out 2).trans rfl; have hcz3 : w10.cell? ⟨gb8, 3, none⟩ = some (.slice none 0 0) := (blk_cell BK8.out 3).trans rfl; have hfz0 := blk_frozen BK8.out 0; have hfz1 := blk_frozen BK8.out 1; have hfz2 := blk_frozen BK8.out 2; have hfz3 := blk_frozen BK8.out 3))
      obtain ⟨w11, hw11⟩ : ∃ w11, w11 = (((w10.setCell ⟨gb8, 0, none⟩ (.bool y.f0)).setCell ⟨gb8, 1, none⟩ (.int .i64 y.f1)).setCell ⟨gb8, 2, none⟩ (.string y.f2)).setCell ⟨gb8, 3, none⟩ (.slice A3 y.f3.length c3) := ⟨_, rfl⟩
      rw [← hw11]
      have hk8 : w11.heap[gb8]? = some (.cells #[.bool y.f0, .int .i64 y.f1, .string y.f2, .slice A3 y.f3.length c3] 44 (0, 0)) := by
        rw [hw11]
        refine blk_put (cs := #[.bool y.f0, .int .i64 y.f1, .string y.f2, .slice none 0 0]) ?_ 3 _ rfl
        refine blk_put (cs := #[.bool y.f0, .int .i64 y.f1, .string (⟨#[]⟩ : ByteArray), .slice none 0 0]) ?_ 2 _ rfl
        refine blk_put (cs := #[.bool y.f0, .int .i64 0, .string (⟨#[]⟩ : ByteArray), .slice none 0 0]) ?_ 1 _ rfl
        refine blk_put (cs := #[.bool false, .int .i64 0, .string (⟨#[]⟩ : ByteArray), .slice none 0 0]) ?_ 0 _ rfl
        exact BK8.out
      have hb11 : Below wr.heap.size wr w11 := by
        rw [hw11]
        repeat (first | exact HBr.out | refine below_set ?_ GE8.out)
      clear HBr BK8 hcz0 hcz1 hcz2 hcz3 hfz0 hfz1 hfz2 hfz3 hw11 hx0 hx1 hx2 hx3 p1 q1
      obtain ⟨pi, vi, hpi, _, hvi⟩ := HIn.out
      have hgl := HGL.out
      have hs11 := hb11.size
      have hcall := HSY.out w0 w11 gb4 gb4 pi vi (Lib.byteCells (wrL (f3.take i))) A3 c3 hpi (hvi.below hb11) (by rw [Lib.byteCells_length]; have h1 := wrL_len (f3.take i); have h2 := iszL_take f3 i; have h3 := HZL.out; omega) (by have h1 := GE4.out; omega) (by omega) (HBw.out.trans (hb11.mono (by have h1 := HBw.out.size; omega))) HC3.out HL3.out
      have HCALL := Aside0.mk hcall
      have HB11 := Aside0.mk (HBB.out.trans (hb11.mono (show gb4 ≤ wr.heap.size by omega)))
      have HS11 := Aside0.mk (show gb4 < w11.heap.size by omega)
      have hcx0 : w11.cell? ⟨gb8, 0, none⟩ = some (.bool y.f0) := (blk_cell hk8 0).trans rfl
      have hcx1 : w11.cell? ⟨gb8, 1, none⟩ = some (.int .i64 y.f1) := (blk_cell hk8 1).trans rfl
      have hcx2 : w11.cell? ⟨gb8, 2, none⟩ = some (.string y.f2) := (blk_cell hk8 2).trans rfl
      have hcx3 : w11.cell? ⟨gb8, 3, none⟩ = some (.slice A3 y.f3.length c3) := (blk_cell hk8 3).trans rfl
      clear hk8 hb11 hpi hvi hcall hgl hs11 HIn
      go_wp2_with (first | (go_at_call 55; (with_reducible refine HCALL.out.mono ?_); rintro e w12 ⟨rfl, hw⟩; have HR := Aside0.mk hw; clear hw))
      go_roundw
      case rel =>
        refine ⟨i + 1, by go_num, ⟨by omega⟩, ⟨.pointer (some ⟨gb4, 0, none⟩), ?_⟩, ⟨HB11.out.trans HR.out.1⟩, ⟨by have h1 := HR.out.2; obtain ⟨_, _, hf⟩ := h1; have h2 := hf.size; have h3 := HS11.out; omega⟩⟩
        obtain ⟨_, v', hv', _⟩ := HR.out
        rw [HWT.out]
        exact ⟨v', .inr rfl, fun e => absurd (List.append_eq_nil_iff.1 e).2 (wr_ne y), by rw [byteCells_app]; exact hv'⟩
      case measure => simp [intOf]; omega
    · have hie : i = f3.length := by have := HI.out; omega
      subst hie
      have t3 : decide ((f3.length : Int) < (f3.length : Int)) = false := decide_eq_false (by omega)
      obtain ⟨pi, vi, hpi, hnil, hvi⟩ := HIn.out
      rw [List.take_length] at hnil hvi
      have hgw := GE4.out
      have hbw : Below w.heap.size w wr := HB.out.trans (HBB.out.mono hgw)
      have hvo := HV.out.below hbw
      have hsw := hbw.size
      have hBr : B ≤ wr.heap.size := by omega
      have hk3 := (HBB.out.block gb3 LT34.out).trans BK3.out
      have hcx1 : wr.cell? ⟨gb3, 1, none⟩ = some (.int .i64 f1) := (blk_cell hk3 1).trans rfl
      have hbne : gb4 ≠ b := by have := HV.out.lt; omega
      have hdd : ∀ k, vi.ownBlock = some k → v.ownBlock ≠ some k := fun k hk e => by have h1 := (hvi.row hk).1; have h2 := HV.out.rlt e; omega
      have hother : ∀ {m : List Value} {w2 : World}, Wrote B b v wr m w2 → BV gb4 gb4 pi vi (Lib.byteCells (wrL f3)) w2 := by
        intro m w2 hw
        obtain ⟨_, v', _, hf⟩ := hw
        exact hvi.other hvo hf (Nat.le_refl _) hbne hdd
      have hlw : (wrL f3).length < 16384 := by have h1 := HLE.out; have h2 := HZL.out; omega
      have hlen : ∀ {m : List Value} {w2 : World}, Wrote B b v wr m w2 → Calls Try.prog 52 #[.pointer (some ⟨gb4, 0, none⟩)] w2 fun e w' => e = .returned (.int .i64 ((wrL f3).length : Int)) ∧ w' = w2 := by
        intro m w2 hw
        have := w_len gb4 gb4 pi vi _ w2 hpi (hother hw)
        rwa [Lib.byteCells_length] at this
      have hstr : ∀ {m : List Value} {w2 : World}, Wrote B b v wr m w2 → Calls Try.prog 53 #[.pointer (some ⟨gb4, 0, none⟩)] w2 fun e w' => e = .returned (.string ⟨(wrL f3).toArray⟩) ∧ Wrote B b v w m w' := by
        intro m w2 hw
        by_cases hm : wrL f3 = []
        · have hvn := hnil hm
          have hb4 := (hother hw).2.1
          rw [hvn] at hb4
          refine (w_str_nil gb4 pi w2 hb4).mono ?_
          rintro e w' ⟨rfl, n, rfl⟩
          exact ⟨by rw [hm], (hw.base hbw hB).drewN n⟩
        · refine (w_str gb4 gb4 pi vi (wrL f3) w2 (hother hw) hm).mono ?_
          rintro e w' ⟨rfl, h1, h2, h3⟩
          exact ⟨rfl, hw.strIn hbw hB hvi HV.out hgw h2 h1 h3⟩
      have HLEN := Aside0.mk @hlen
      have HSTR := Aside0.mk @hstr
      have HFST := Aside0.mk (fun (q : Int) => Wrote.first HP.out hvo hBr q (by omega))
      have HBR := Aside0.mk hBr
      have HLW := Aside0.mk hlw
      clear hlen hstr hother hvo hvi hnil hpi hdd hbne hk3 hbw hsw hgw hBr hlw HIn HI
      go_upto_region 12 with (first | (go_at_call 64; refine (HFST.out _).mono ?_; rintro e w1 ⟨rfl, hw⟩; have HR := Aside0.mk hw; clear hw))
      go_upto_region 13 with (first | (go_at_call 52; refine (HLEN.out HR.out).mono ?_; rintro e w2 ⟨rfl, rfl⟩) | (go_at_call 65; refine (HR.out.length HBR.out (n := (wrL f3).length) HLW.out (by simp; omega)).mono ?_; rintro e w2 ⟨rfl, hw⟩; have HR2 := Aside0.mk hw; clear hw HR; have HR := HR2; clear HR2))
      go_wp2_with (first | (go_at_call 53; refine (HSTR.out HR.out).mono ?_; rintro e w3 ⟨rfl, hw⟩; have HR2 := Aside0.mk hw; clear hw HR; have HR := HR2; clear HR2) | (go_at_call 51; refine (HR.out.string hB _ (by simp; omega) (by have h1 := HLC.out; have h2 := HLW.out; simp [ByteArray.size]; omega)).mono ?_; rintro e w4 ⟨rfl, hw⟩; have HR2 := Aside0.mk hw; clear hw HR; have HR := HR2; clear HR2))
      go_end0
      refine ⟨rfl, ?_⟩
      have q := HR.out
      rw [HW.out]
      rw [strCells_byte] at q
      simpa [List.append_assoc] using q
end Go.Proofs.Ytkgijkfcmbpgpaa.Giv
end

section
namespace Go.Proofs.Ytkgijkfcmbpgpaa.Giv
open Go.RowKit Go.Proofs.YtkgijkfcmbpgpaaW.PrintWords Go.Proofs.YtkgijkfcmbpgpaaW.PrintLast Go.Proofs.YtkgijkfcmbpgpaaW.PrintMore Go.Proofs.Ytkgijkfcmbpgpaa.PWir
set_option linter.unusedVariables false
set_option linter.unusedSimpArgs false
theorem digits_some (n k : Nat) (h : n < 16384) (hk : 2 ≤ k) : wire_digits.f k (n : Int) = some ((lenL n).length : Int) := by
  obtain ⟨k, rfl⟩ : ∃ j, k = j + 2 := ⟨k - 2, by omega⟩
  unfold wire_digits.f lenL
  by_cases h1 : n < 128
  · rw [wire_digits.l0, if_neg (by omega), if_pos h1]; rfl
  · have e : wrap64 (Int.tdiv (n : Int) 128) = ((n / 128 : Nat) : Int) := by
      rw [Int.tdiv_eq_ediv_of_nonneg (by omega)]; unfold wrap64; omega
    rw [wire_digits.l0, if_pos (by omega), e, wire_digits.l0, if_neg (by omega), if_neg h1, show wrap64 (1 + 1) = 2 from by unfold wrap64; omega]
    rfl
theorem iszL_drop (l : List S44) (i : Nat) (h : i < l.length) : iszL (l.drop i) = isz (rd_T44 l (i : Int)) + iszL (l.drop (i + 1)) := by rw [drop_rd l i h, iszL]
theorem wr_pos (x : S44) : 1 ≤ (wr x).length := by
  have := wr_ne x
  cases h : wr x with
  | nil => exact absurd h this
  | cons a r => simp
/-- What the program's size answers. -/
def szI (x : S44) (d : Nat) : Int := if shp x d = true then ((wr x).length : Int) else -1
theorem size_round (k d n i : Nat) (l : List S44) (h1 : i < l.length) (h2 : l.length ≤ 100000) : wire_size.l0 (k + 1) (d : Int) (n : Int) l (l.length : Int) (i : Int) =
    (wire_size.f k ((rd_T44 l (i : Int)).f0) ((rd_T44 l (i : Int)).f1) ((rd_T44 l (i : Int)).f2) ((rd_T44 l (i : Int)).f3) (wrap64 ((d : Int) + 1))).bind fun t => (if t < 0 then (some (-1)) else (wire_size.l0 k (d : Int) (wrap64 ((n : Int) + t)) l (l.length : Int) (wrap64 ((i : Int) + 1)))) := by
  rw [wire_size.l0, if_pos (by omega), if_pos (by omega), if_pos (by omega)]
theorem size_l0 (l : List S44) (d : Nat) (hd : d ≤ 40) (hz : iszL l ≤ 3000) (ih : ∀ x ∈ l, ∀ k, 8 * isz x ≤ k → wire_size.f k x.f0 x.f1 x.f2 x.f3 ((d + 1 : Nat) : Int) = some (szI x (d + 1))) :
    ∀ (m i n k : Nat), i + m = l.length → 8 * iszL (l.drop i) + 3 ≤ k → n + 4 * iszL (l.drop i) ≤ 16000 →
    wire_size.l0 k (d : Int) (n : Int) l (l.length : Int) (i : Int) = some (if shpL (l.drop i) (d + 1) = true then ((1 + (lenL (n + (wrL (l.drop i)).length)).length + (n + (wrL (l.drop i)).length) : Nat) : Int) else -1) := by
  intro m
  induction m with
  | zero =>
    intro i n k hi hk hn
    obtain ⟨k, rfl⟩ : ∃ j, k = j + 1 := ⟨k - 1, by omega⟩
    have hdr : l.drop i = [] := List.drop_eq_nil_of_le (by omega)
    have hln := lenL_len n
    rw [wire_size.l0, if_neg (by omega), digits_some n k (by omega) (by omega), Option.bind_some, hdr, shpL, if_pos rfl, wrL]
    congr 1
    rw [show wrap64 (1 + ((lenL n).length : Int)) = 1 + ((lenL n).length : Int) from by unfold wrap64; omega]
    simp only [List.length_nil, Nat.add_zero]
    unfold wrap64
    omega
  | succ m ihm =>
    intro i n k hi hk hn
    obtain ⟨k, rfl⟩ : ∃ j, k = j + 1 := ⟨k - 1, by omega⟩
    have hlt : i < l.length := by omega
    have hll := iszL_len l
    have hdz := iszL_drop l i hlt
    have hp := isz_pos (rd_T44 l (i : Int))
    have hx := ih _ (rd_mem l i hlt) k (by omega)
    have hw := wr_len (rd_T44 l (i : Int))
    have hw1 := wr_pos (rd_T44 l (i : Int))
    have e1 : wrap64 ((d : Int) + 1) = ((d + 1 : Nat) : Int) := by unfold wrap64; omega
    have e2 : wrap64 ((i : Int) + 1) = ((i + 1 : Nat) : Int) := by unfold wrap64; omega
    have hn2 := fun q hq => ihm (i + 1) q k (by omega) (by omega) hq
    have st := size_round k d n i l (by omega) (by omega)
    rw [e1, hx, Option.bind_some, e2] at st
    rw [st, drop_rd l i hlt, shpL, wrL]
    obtain ⟨y, hy⟩ : ∃ y, y = rd_T44 l (i : Int) := ⟨_, rfl⟩
    rw [← hy]
    rw [← hy] at hdz hp hw hw1
    clear st hx e1 e2 ihm ih
    unfold szI
    by_cases hs : shp y (d + 1) = true
    · have hnn := hn2 (n + (wr y).length) (by omega)
      have hnl : ¬ ((wr y).length : Int) < 0 := by omega
      have e3 : wrap64 ((n : Int) + ((wr y).length : Int)) = ((n + (wr y).length : Nat) : Int) := by unfold wrap64; omega
      rw [if_pos hs, if_neg hnl, e3, hnn, hs, Bool.true_and, show n + (wr y ++ wrL (List.drop (i + 1) l)).length = n + (wr y).length + (wrL (List.drop (i + 1) l)).length from by rw [List.length_append]; omega]
    · rw [if_neg hs, if_pos (by omega)]
      have hf : shp y (d + 1) = false := by simpa using hs
      rw [hf, Bool.false_and, if_neg (by simp)]
theorem shp_eq (x : S44) (d : Nat) : shp x d = (decide (d ≤ 32) && decide (1 ≤ x.f1) && decide (x.f1 ≤ 127) && (if x.f0 then decide (x.f2.size = 0) else x.f3.isEmpty) && shpL x.f3 (d + 1)) := by cases x; rw [shp]
theorem wr_eq (x : S44) : wr x = if x.f0 then tagB x.f0 x.f1 :: (lenL (wrL x.f3).length ++ wrL x.f3) else tagB x.f0 x.f1 :: (lenL x.f2.data.toList.length ++ x.f2.data.toList) := by cases x; rw [wr]
theorem size_some : ∀ (N : Nat) (x : S44), isz x ≤ N → N ≤ 3000 → ∀ (d k : Nat), d ≤ 40 → 8 * isz x ≤ k → wire_size.f k x.f0 x.f1 x.f2 x.f3 (d : Int) = some (szI x d) := by
  intro N
  induction N with
  | zero => intro x hx; have := isz_pos x; omega
  | succ N ih =>
    intro x hx hN d k hd hk
    have hz := isz_eq x
    have hp := isz_pos x
    obtain ⟨k, rfl⟩ : ∃ j, k = j + 5 := ⟨k - 5, by omega⟩
    have out : ∀ k, wire_size.j0 (k + 1) (d : Int) true x.f0 x.f1 x.f2 x.f3 = some (-1) := fun k => by rw [wire_size.j0, if_pos rfl]
    have hne : shp x d = false → some (szI x d) = some (-1) := fun h => by unfold szI; rw [h, if_neg (by simp)]
    have hse := shp_eq x d
    unfold szI at *
    rw [wire_size.f]
    by_cases h1 : (d : Int) > 32
    · rw [if_pos h1, out, hne (by rw [hse, decide_eq_false (by omega)]; simp)]
    rw [if_neg h1]
    by_cases h2 : x.f1 < 1
    · rw [if_pos h2, out, hne (by rw [hse, decide_eq_false (show ¬ 1 ≤ x.f1 by omega)]; simp)]
    rw [if_neg h2]
    by_cases h3 : x.f1 > 127
    · rw [decide_eq_true h3, out, hne (by rw [hse, decide_eq_false (show ¬ x.f1 ≤ 127 by omega)]; simp)]
    rw [decide_eq_false h3, wire_size.j0, if_neg (by simp)]
    have hd1 : decide (d ≤ 32) = true := decide_eq_true (by omega)
    have hd2 : decide (1 ≤ x.f1) = true := decide_eq_true (by omega)
    have hd3 : decide (x.f1 ≤ 127) = true := decide_eq_true (by omega)
    rw [hd1, hd2, hd3] at hse
    simp only [Bool.true_and] at hse
    by_cases hn : x.f0 = true
    · rw [if_pos hn]
      rw [hn] at hse
      simp only [if_true] at hse
      by_cases h4 : x.f2.size = 0
      · have e4 : (x.f2.toList != ([] : List UInt8)) = false := by
          have : x.f2.toList = [] := by rw [ba_toList]; exact List.eq_nil_of_length_eq_zero (by simpa using h4)
          rw [this]; rfl
        have hj : wire_size.l0 (k + 1) (d : Int) 0 x.f3 (x.f3.length : Int) 0 = _ := size_l0 x.f3 d hd (by omega) (fun y hy k hk => by have := iszL_mem x.f3 y hy; exact ih y (by omega) (by omega) (d + 1) k (by omega) hk) x.f3.length 0 0 (k + 1) (by omega) (by rw [List.drop_zero]; omega) (by rw [List.drop_zero]; omega)
        rw [List.drop_zero, Nat.zero_add] at hj
        rw [e4, wire_size.j1, if_neg (by simp), if_pos hn, wire_size.j2, if_neg (by simp), if_pos hn, h4, show ((0 : Nat) : Int) = (0 : Int) from rfl, hj, hse]
        rw [decide_eq_true h4, Bool.true_and, wr_eq x, if_pos hn]
        simp only [List.length_cons, List.length_append]
        congr 2
        omega
      · have e4 : (x.f2.toList != ([] : List UInt8)) = true := by
          have : x.f2.toList ≠ [] := by rw [ba_toList]; intro e; exact h4 (by have := congrArg List.length e; simpa using this)
          simpa using this
        rw [e4, wire_size.j1, if_pos rfl, wire_size.j2, if_pos rfl, hse, decide_eq_false h4]
        simp
    · have hn' : x.f0 = false := by simpa using hn
      rw [if_neg hn, wire_size.j1, if_neg (by simp), if_neg hn]
      rw [hn'] at hse
      simp only [Bool.false_eq_true, if_false] at hse
      by_cases h4 : x.f3 = []
      · have hsl : x.f2.data.toList.length = x.f2.size := by simp
        have hln := lenL_len x.f2.size
        rw [h4] at hse
        simp only [List.isEmpty_nil, Bool.true_and, shpL] at hse
        rw [decide_eq_false (show ¬ (x.f3.length : Int) > 0 by rw [h4]; simp), wire_size.j2, if_neg (by simp), if_neg hn, digits_some x.f2.size (k + 1) (by omega) (by omega), Option.bind_some, hse, if_pos rfl, wr_eq x, if_neg hn, hsl]
        congr 1
        rw [show wrap64 (1 + ((lenL x.f2.size).length : Int)) = 1 + ((lenL x.f2.size).length : Int) from by unfold wrap64; omega]
        simp only [List.length_cons, List.length_append, hsl]
        unfold wrap64
        omega
      · have h5 : 0 < x.f3.length := List.length_pos_iff.2 h4
        have h6 : x.f3.isEmpty = false := by simpa using h4
        rw [decide_eq_true (by omega), wire_size.j2, if_pos rfl, hse, h6]
        simp
theorem wr_two (x : S44) : 2 ≤ (wr x).length := by
  rw [wr_eq]
  have h1 := lenL_len (wrL x.f3).length
  have h2 := lenL_len x.f2.data.toList.length
  split <;> simp only [List.length_cons, List.length_append] <;> omega
theorem valid_some (x : S44) (hz : isz x ≤ 3000) (k : Nat) (hk : 24000 ≤ k) : wire_Valid.f k x.f0 x.f1 x.f2 x.f3 = some (shp x 0) := by
  have h := size_some 3000 x hz (by omega) 0 k (by omega) (by omega)
  unfold wire_Valid.f
  have hw := wr_len x
  have hw2 := wr_two x
  have h' : wire_size.f k x.f0 x.f1 x.f2 x.f3 0 = some (szI x 0) := h
  rw [h', Option.bind_some]
  unfold szI
  by_cases hs : shp x 0 = true
  · rw [if_pos hs, if_pos (by omega), decide_eq_true (by omega), hs]
  · rw [if_neg hs, if_neg (by omega)]
    have : shp x 0 = false := by simpa using hs
    rw [this]
end Go.Proofs.Ytkgijkfcmbpgpaa.Giv
end
