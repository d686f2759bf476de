/- Joined by wip/pack.py out of: GWireN, GWireT, GWire; what nothing here names is left out. -/
import Derived.ArgAppend
import Derived.Below
import Derived.BigQuiet
import Derived.Deep.AppendLies
import Derived.Deep.CutBlock
import Derived.Deep.DeepCutAuto
import Derived.Deep.Draws
import Derived.Deep.LoopGhost
import Derived.Deep.OwnRows
import Derived.Deep.QuietTactic
import Derived.Deep.RegionHeld3
import Derived.KernelRfl
import Derived.Laws.BitsLemmas
import Derived.Laws.BytesArg
import Derived.Laws.IdiomCopy
import Derived.Laws.MakeOwn
import Derived.Laws.OwnMore
import Derived.Laws.Rows
import Derived.Laws.Slices
import Derived.Laws.StructEq
import Derived.Lib.AppendStr
import Derived.Lib.ConvBytes
import Derived.Maps.AppendAt
import Derived.OrdersHeld
import Derived.OwnWalk
import Derived.RowKit
import Derived.RowKit3
import Derived.Shelf.Strings.Builder1
import Derived.Shelf.Strings.BuilderF
import Derived.Shelf.Strings.BuilderK
import Derived.Tactics
import Derived.WalkKit
import Derived.WideLaws
import Derived.Test.YtkgijkfcmbpgpaaO3b2
import Derived.Test.YtkgijkfcmbpgpaaO3b4
import Derived.Test.YtkgijkfcmbpgpaaProg
section
namespace Go.Proofs.Ytkgijkfcmbpgpaa.Giv
open Go.RowKit Go.Proofs.YtkgijkfcmbpgpaaW.PrintWords Go.Proofs.YtkgijkfcmbpgpaaW.PrintLast Go.Proofs.YtkgijkfcmbpgpaaW.PrintMore Go.Proofs.Ytkgijkfcmbpgpaa.PWir
set_option linter.unusedVariables false
set_option linter.unusedSimpArgs false

open Classical in
/-- The least number of which p holds. -/
noncomputable def lowN (p : Nat → Prop) : Nat := if h : ∃ n, p n ∧ ∀ m, p m → n ≤ m then Classical.choose h else 0
theorem lowN_spec {p : Nat → Prop} (h : ∃ n, p n) : p (lowN p) ∧ ∀ m, p m → lowN p ≤ m := by
  have h2 : ∃ n, p n ∧ ∀ m, p m → n ≤ m := by
    obtain ⟨n, hn⟩ := h
    induction n using Nat.strongRecOn with
    | _ n ih =>
      by_cases hm : ∃ m, m < n ∧ p m
      · obtain ⟨m, h1, h2⟩ := hm
        exact ih m h1 h2
      · exact ⟨n, hn, fun m h => by
          rcases Nat.lt_or_ge m n with h1 | h1
          · exact absurd ⟨m, h1, h⟩ hm
          · exact h1⟩
  unfold lowN
  rw [dif_pos h2]
  exact Classical.choose_spec h2
/-- A scope in which the run jumps back to one label, with a number that every jump lowers; the rest behind the label is walked once. -/
theorem wp_scope_once {P : Program} {a : Act} {w : World} {Q : Exit → Act → World → Prop} {c rest : Code} (l : Nat) (J : Nat → Act → World → Prop) (hf : findLabel c l = some (.seq .skip rest))
    (pass : ∀ n a w, J n a w → rest.wp P (Exit.jump l (fun a' w' => ∃ m, m < n ∧ J m a' w') Q) a w)
    (first : (∀ n a w, J n a w → rest.wp P (Exit.jump l (fun a w => ∃ n, J n a w) Q) a w) → c.wp P (Exit.jump l (fun a w => ∃ n, J n a w) Q) a w) : (Code.scope c).wp P Q a w :=
  wp_scope_jumps l (fun a w => ∃ n, J n a w) (fun a w => lowN (fun n => J n a w)) hf (first fun n a w hJ => Code.wp_mono (fun e a' w' h => by
      cases e with
      | goto l' =>
        obtain ⟨e1, m, hm, hj⟩ := h
        exact ⟨e1, m, hj⟩
      | _ => exact h) (pass n a w hJ)) fun a w hJ =>
    Code.wp_mono (fun e a' w' h => by
      cases e with
      | goto l' =>
        obtain ⟨e1, m, hm, hj⟩ := h
        exact ⟨e1, ⟨m, hj⟩, Nat.lt_of_le_of_lt ((lowN_spec (p := fun n => J n a' w') ⟨m, hj⟩).2 m hj) hm⟩
      | _ => exact h) (wp_seq (wp_skip (pass _ a w (lowN_spec hJ).1)))

theorem drop_at (s : ByteArray) (i : Nat) (h : i < s.size) : s.data.toList.drop i = s[i] :: s.data.toList.drop (i + 1) := by
  have h' : i < s.data.toList.length := by simpa using h
  rw [List.drop_eq_getElem_cons h']
  rfl
theorem num_end {a b : Nat × Nat × Nat} {r1 r2 r3 : Int} (h : (a.1 : Int) = r1 ∧ (a.2.1 : Int) = r2 ∧ (a.2.2 : Int) = r3) (e : a = b) {x y z : Int} (q : ((b.1 : Int), (b.2.1 : Int), (b.2.2 : Int)) = (x, y, z)) :
    Ending.returned (.tuple #[.int .i64 x, .int .i64 y, .int .i64 z]) = .returned (.tuple #[.int .i64 r1, .int .i64 r2, .int .i64 r3]) := by
  subst e
  obtain ⟨rfl, rfl, rfl⟩ := h
  simp only [Prod.mk.injEq] at q
  obtain ⟨rfl, rfl, rfl⟩ := q
  rfl
theorem num_one (s : ByteArray) (h : 1 < s.size) : ((s[1]'h).toNat = 128 → numS s.data.toList = (0, 0, 13)) ∧ (¬ (s[1]'h).toNat = 128 → numS s.data.toList = numGo (s.data.toList.drop 1) 0 1) := by
  have hl : s.data.toList.length = s.size := by simp
  have hq : s.data.toList.getD 1 0 = s[1] := by
    have h' : 1 < s.data.toList.length := by omega
    rw [List.getD_eq_getElem?_getD, List.getElem?_eq_getElem h']
    rfl
  unfold numS
  rw [hl, hq]
  constructor
  · intro e
    rw [if_pos ⟨h, UInt8.toNat_inj.1 e⟩]
  · intro e
    rw [if_neg (fun hh => e (by rw [hh.2]; rfl))]
theorem num_none (s : ByteArray) (h : ¬ 1 < s.size) : numS s.data.toList = (0, 0, 10) := by
  have hl : s.data.toList.length = s.size := by simp
  unfold numS
  rw [if_neg (fun hh => h (by omega)), List.drop_eq_nil_of_le (by omega), numGo]
/-- What is read, behind so many bytes. -/
theorem num_nil0 (s : ByteArray) (h : s.size ≤ 1) : numGo (s.data.toList.drop 1) 0 1 = (0, 0, 10) := by
  rw [List.drop_eq_nil_of_le (by simpa using h), numGo]
def NumAt (s : ByteArray) (n i : Nat) : Prop := numGo (s.data.toList.drop i) n i = numS s.data.toList
def NumJ (s : ByteArray) (w0 : World) (m : Nat) (a' : Act) (w' : World) : Prop :=
  ∃ (n i : Nat) (x5 x6 : Int) (u1 u2 u3 u4 u7 u8 u9 u10 u11 u12 u13 u14 u15 u16 u17 u18 u19 u20 u21 u22 u23 u24 u25 u26 u27 u28 u29 u30 u31 u32 u33 u34 u35 u36 u37 : Value), m = s.size + 1 - i ∧ i ≤ s.size + 1 ∧ 1 ≤ i ∧ n ≤ 65536 ∧ NumAt s n i ∧ Below w0.heap.size w0 w' ∧ x5 = (n : Int) ∧ x6 = (i : Int) ∧
    a' = { tmps := #[.string s, u1, u2, u3, u4, .int .i64 x5, .int .i64 x6, u7, u8, u9, u10, u11, u12, u13, u14, u15, u16, u17, u18, u19, u20, u21, u22, u23, u24, u25, u26, u27, u28, u29, u30, u31, u32, u33, u34, u35, u36, u37], defers := [] }
set_option maxHeartbeats 8000000 in
set_option maxRecDepth 100000 in
theorem wire_number.calls (s : ByteArray) (r1 r2 r3 : Int) (w : World) (h : wire_number.f s = some (r1, r2, r3)) :
    Calls Try.prog 70 #[.string s] w fun e w' => e = .returned (.tuple #[.int .i64 r1, .int .i64 r2, .int .i64 r3]) ∧ Below w.heap.size w w' := by
  unfold wire_number.f at h
  by_cases hsz : s.size ≤ 140737488355328
  case neg => rw [if_neg hsz] at h; exact absurd h (by simp)
  rw [if_pos hsz] at h
  have H : (((numS s.data.toList).1 : Int), ((numS s.data.toList).2.1 : Int), ((numS s.data.toList).2.2 : Int)) = (r1, r2, r3) := Option.some.inj h
  simp only [Prod.mk.injEq] at H
  have HR := Aside0.mk H
  clear h H
  have hsz2 : (s.size : Int) ≤ 140737488355328 := by omega
  clear hsz
  go_enter Try.func70, Try.ntmps70
  go_wp2_with fail
  refine wp_scope_once 0 (NumJ s w) rfl ?_ ?_
  · rintro m a' wr ⟨n, i, _, _, u1, u2, u3, u4, u7, u8, u9, u10, u11, u12, u13, u14, u15, u16, u17, u18, u19, u20, u21, u22, u23, u24, u25, u26, u27, u28, u29, u30, u31, u32, u33, u34, u35, u36, u37, rfl, hi, hi1, hn, hA, hB, rfl, rfl, rfl⟩
    have HJ := Aside0.mk hA
    have HB := Aside0.mk hB
    have HI := Aside0.mk hi1
    have hn2 : (n : Int) ≤ 65536 := by omega
    clear hA hB hi1
    by_cases hlt : i < s.size
    · have ht := (s[i]'hlt).toNat_lt
      have hlt2 : (i : Int) < (s.size : Int) := by omega
      have E1 := Aside0.mk (show NumAt s n i = (numGo (s[i] :: s.data.toList.drop (i + 1)) n i = numS s.data.toList) by unfold NumAt; rw [drop_at s i hlt])
      go_wp2_with fail
      all_goals first
        | (simp only [Exit.jump]
           go_ret3
           refine ⟨num_end HR.out (E1.out.mp HJ.out).symm ?_, HB.out⟩
           rw [numGo]
           first
           | rw [if_pos (by omega)]
           | rw [if_neg (by omega), if_neg (by omega)]
           try (simp only [Prod.mk.injEq]; omega))
        | (go_step3
           refine ⟨rfl, s.size + 1 - (i + 1), by omega, n * 128 + (s[i]'hlt).toNat % 128, i + 1, _, _, _, _, _, _, _, _, _, _, _, _, _, _, _, _, _, _, _, _, _, _, _, _, _, _, _, _, _, _, _, _, _, _, _, _, _, rfl, by omega, by omega, by omega, ?_, HB.out, ?_, ?_, rfl⟩
           · have e := E1.out.mp HJ.out
             rw [numGo, if_neg (by omega), if_pos (by omega)] at e
             exact e
           · omega
           · omega)
    · have hge : s.size ≤ i := by omega
      have p2 : decide ((s.size : Int) ≤ (i : Int)) = true := decide_eq_true (by omega)
      have p3 : decide (s.size ≤ i) = true := decide_eq_true (by omega)
      clear hlt
      go_wp2_with fail
      simp only [Exit.jump]
      go_ret3
      have e : numGo (s.data.toList.drop i) n i = numS s.data.toList := HJ.out
      refine ⟨num_end HR.out e.symm ?_, HB.out⟩
      rw [List.drop_eq_nil_of_le (by simp; omega), numGo]
      rfl
  · intro hp
    by_cases h1 : 1 < s.size
    · have z := num_one s h1
      by_cases h2 : (s[1]'h1).toNat = 128
      · have Z := Aside0.mk (z.1 h2)
        clear z
        go_wp2_with fail
        simp only [Exit.jump]
        go_ret3
        exact ⟨num_end HR.out Z.out rfl, Below.refl _ _⟩
      · have Z := Aside0.mk (z.2 h2)
        clear z
        go_wp2_with fail
        go_step3
        rename_i hK
        refine hK _ _ (hp s.size _ _ ?_)
        exact ⟨0, 1, _, _, _, _, _, _, _, _, _, _, _, _, _, _, _, _, _, _, _, _, _, _, _, _, _, _, _, _, _, _, _, _, _, _, _, _, _, rfl, by omega, by omega, by omega, Z.out.symm, Below.refl _ _, rfl, rfl, rfl⟩
    · have z := num_none s h1
      have Z := Aside0.mk z
      have hle : s.size ≤ 1 := by omega
      clear z h1
      go_wp2_with fail
      go_step3
      rename_i hK _
      refine hK _ _ (hp s.size _ _ ?_)
      exact ⟨0, 1, _, _, _, _, _, _, _, _, _, _, _, _, _, _, _, _, _, _, _, _, _, _, _, _, _, _, _, _, _, _, _, _, _, _, _, _, _, rfl, by omega, by omega, by omega, (num_nil0 s (by omega)).trans Z.out.symm, Below.refl _ _, rfl, rfl, rfl⟩
end Go.Proofs.Ytkgijkfcmbpgpaa.Giv
end

section
namespace Go.Proofs.Ytkgijkfcmbpgpaa.Giv
open Go.RowKit Go.Proofs.YtkgijkfcmbpgpaaW.PrintWords Go.Proofs.YtkgijkfcmbpgpaaW.PrintLast Go.Proofs.YtkgijkfcmbpgpaaW.PrintMore Go.Proofs.Ytkgijkfcmbpgpaa.PWir
set_option linter.unusedVariables false
set_option linter.unusedSimpArgs false

set_option maxHeartbeats 8000000 in
set_option maxRecDepth 100000 in
theorem same_step (x : S44) (hS : ∀ z ∈ x.f3, SameOK z) : SameOK x := by
  intro hz y A0 c0 A1 c1 w hr0 hc0 hr1 hc1
  have hu44 := Try.underlying44
  have hz3 : iszL x.f3 ≤ 100000000 := by cases x; rw [isz] at hz; simp at hz ⊢; omega
  have HQ := Aside0.mk (eqfunc x.f3 y.f3 hz3 hS)
  have HR0 := Aside0.mk hr0
  have HR1 := Aside0.mk hr1
  have HL0 := Aside0.mk hc0
  have HL1 := Aside0.mk hc1
  have hE : sameB x y = ((x.f0 == y.f0) && decide (x.f1 = y.f1) && (x.f2.data.toList == y.f2.data.toList) && sameL x.f3 y.f3) := by cases x; cases y; rw [sameB]
  have HE := Aside0.mk hE
  clear hz hz3 hS hr0 hr1 hc0 hc1 hE
  have HB := Aside0.mk (Below.refl w.heap.size w)
  go_enter Try.func40, Try.ntmps40
  go_upto_region 1 with (first | ((with_reducible refine gate_dst (N := 2) rfl ?_); refine box_event ?hg (N := 2) ?hd (cs := #[.bool x.f0, .int .i64 x.f1, .string x.f2, .slice A0 x.f3.length c0]) (t := 44) ?hr ?_; (case hd => rfl); (case hg => rfl); (case hr => first | (go_simp; done) | (go_simp; rfl)); intro gb8 hg w8 hbox hb; have n0_ := Aside0.mk (below_step HB.out hb); have n1_ := Aside0.mk hbox; clear HB; have HB := n0_; have BK8 := n1_; clear n0_ n1_; clear hb hbox hg) | ((with_reducible refine gate_dst (N := 3) rfl ?_); refine box_event ?hg (N := 3) ?hd (cs := #[.bool y.f0, .int .i64 y.f1, .string y.f2, .slice A1 y.f3.length c1]) (t := 44) ?hr ?_; (case hd => rfl); (case hg => rfl); (case hr => first | (go_simp; done) | (go_simp; rfl)); intro gb9 hg w9 hbox hb; have n0_ := Aside0.mk (below_step HB.out hb); have n1_ := Aside0.mk hbox; have n2_ := Aside0.mk (blk_below (g := gb8) (o := .cells #[.bool x.f0, .int .i64 x.f1, .string x.f2, .slice A0 x.f3.length c0] 44 (0, 0)) BK8.out hb); clear HB BK8; have HB := n0_; have BK9 := n1_; have BK8 := n2_; clear n0_ n1_ n2_; clear hb hbox hg))
  have hcx0 : w9.cell? ⟨gb8, 0, none⟩ = some (.bool x.f0) := (blk_cell BK8.out 0).trans rfl
  have hcx1 : w9.cell? ⟨gb8, 1, none⟩ = some (.int .i64 x.f1) := (blk_cell BK8.out 1).trans rfl
  have hcx2 : w9.cell? ⟨gb8, 2, none⟩ = some (.string x.f2) := (blk_cell BK8.out 2).trans rfl
  have hcx3 : w9.cell? ⟨gb8, 3, none⟩ = some (.slice A0 x.f3.length c0) := (blk_cell BK8.out 3).trans rfl
  have hcy0 : w9.cell? ⟨gb9, 0, none⟩ = some (.bool y.f0) := (blk_cell BK9.out 0).trans rfl
  have hcy1 : w9.cell? ⟨gb9, 1, none⟩ = some (.int .i64 y.f1) := (blk_cell BK9.out 1).trans rfl
  have hcy2 : w9.cell? ⟨gb9, 2, none⟩ = some (.string y.f2) := (blk_cell BK9.out 2).trans rfl
  have hcy3 : w9.cell? ⟨gb9, 3, none⟩ = some (.slice A1 y.f3.length c1) := (blk_cell BK9.out 3).trans rfl
  clear BK8 BK9
  by_cases e0 : x.f0 = y.f0
  case neg =>
    have f0 : (x.f0 == y.f0) = false := beq_eq_false_iff_ne.2 e0
    have HF := Aside0.mk (show sameB x y = false by rw [HE.out, f0]; simp)
    clear e0 HE
    go_wp2
    go_ret
    exact ⟨by rw [HF.out]; rfl, HB.out⟩
  have f0 : (x.f0 == y.f0) = true := beq_iff_eq.2 e0
  clear e0
  by_cases e1 : x.f1 = y.f1
  case neg =>
    have f1 : (x.f1 == y.f1) = false := beq_eq_false_iff_ne.2 e1
    have HF := Aside0.mk (show sameB x y = false by rw [HE.out, decide_eq_false e1]; simp)
    clear e1 HE
    go_wp2
    go_ret
    exact ⟨by rw [HF.out]; rfl, HB.out⟩
  have f1 : (x.f1 == y.f1) = true := beq_iff_eq.2 e1
  have g1 : decide (x.f1 = y.f1) = true := decide_eq_true e1
  have G1 := Aside0.mk g1
  clear e1 g1
  by_cases e2 : x.f2.toList = y.f2.toList
  case neg =>
    have f2 : (x.f2.toList == y.f2.toList) = false := beq_eq_false_iff_ne.2 e2
    have f3 : (x.f2.data.toList == y.f2.data.toList) = false := beq_eq_false_iff_ne.2 fun h => e2 (by rw [ba_ext2 h])
    have HF := Aside0.mk (show sameB x y = false by rw [HE.out, f3]; simp)
    clear e2 f3 HE
    go_wp2
    go_ret
    exact ⟨by rw [HF.out]; rfl, HB.out⟩
  have f2 : (x.f2.toList == y.f2.toList) = true := beq_iff_eq.2 e2
  have f3 : (x.f2.data.toList == y.f2.data.toList) = true := beq_iff_eq.2 (by rw [ba_toList_inj e2])
  have HF := Aside0.mk (show sameB x y = sameL x.f3 y.f3 by rw [HE.out, f0, G1.out, f3]; simp)
  clear e2 f3 G1 HE
  go_wp2_with (first | (go_at_call 58; (with_reducible refine (HQ.out _ _ _ _ _ (Kd.C_below HR0.out HB.out) HL0.out (Kd.C_below HR1.out HB.out) HL1.out).mono ?_); rintro e w12 ⟨rfl, hb⟩; have n0_ := Aside0.mk (below_step HB.out hb); clear HB; have HB := n0_; clear n0_ hb))
  go_ret
  exact ⟨by rw [HF.out]; rfl, HB.out⟩
theorem same_all : ∀ (n : Nat) (x : S44), isz x ≤ n → SameOK x := by
  intro n
  induction n with
  | zero => intro x hx; have := isz_pos x; omega
  | succ n ih =>
    intro x hx
    refine same_step x fun z hz => ih z ?_
    have h1 := iszL_mem x.f3 z hz
    have h2 : isz x = 1 + x.f2.size + iszL x.f3 := by cases x; rw [isz]
    omega
theorem wire_Same.calls (a0_0 : Bool) (a0_1 : Int) (a0_2 : ByteArray) (A0_3 : Option Addr) (c0_3 : Nat) (l0_3 : List (S44)) (a1_0 : Bool) (a1_1 : Int) (a1_2 : ByteArray) (A1_3 : Option Addr) (c1_3 : Nat) (l1_3 : List (S44)) (r : Bool) (w : World) (hr0_3 : Kd.C k44 w A0_3 l0_3.length l0_3) (hc0_3 : l0_3.length ≤ c0_3) (hr1_3 : Kd.C k44 w A1_3 l1_3.length l1_3) (hc1_3 : l1_3.length ≤ c1_3) (h : wire_Same.f a0_0 a0_1 a0_2 l0_3 a1_0 a1_1 a1_2 l1_3 = some r) :
    Calls Try.prog 40 #[.agg #[.bool a0_0, .int .i64 a0_1, .string a0_2, .slice A0_3 l0_3.length c0_3], .agg #[.bool a1_0, .int .i64 a1_1, .string a1_2, .slice A1_3 l1_3.length c1_3]] w fun e w' => e = .returned (.bool r) ∧ Below w.heap.size w w' := by
  unfold wire_Same.f at h
  by_cases hz : isz ⟨a0_0, a0_1, a0_2, l0_3⟩ ≤ 100000000
  · rw [if_pos hz] at h
    obtain rfl := Option.some.inj h
    exact same_all _ ⟨a0_0, a0_1, a0_2, l0_3⟩ (Nat.le_refl _) hz ⟨a1_0, a1_1, a1_2, l1_3⟩ A0_3 c0_3 A1_3 c1_3 w hr0_3 hc0_3 hr1_3 hc1_3
  · rw [if_neg hz] at h
    exact absurd h (by simp)
end Go.Proofs.Ytkgijkfcmbpgpaa.Giv
end

section
namespace Go.Proofs.Ytkgijkfcmbpgpaa.Giv
open Go.RowKit Go.Proofs.YtkgijkfcmbpgpaaW.PrintWords Go.Proofs.YtkgijkfcmbpgpaaW.PrintLast Go.Proofs.YtkgijkfcmbpgpaaW.PrintMore Go.Proofs.Ytkgijkfcmbpgpaa.PWir
set_option linter.unusedVariables false
set_option linter.unusedSimpArgs false
theorem put_all : ∀ (n : Nat) (x : S44), isz x ≤ n → PutOK x := by
  intro n
  induction n with
  | zero => intro x hx; have := isz_pos x; omega
  | succ n ih =>
    intro x hx
    by_cases h0 : x.f0 = true
    · refine put_node x h0 fun y hy => ih y ?_
      have h1 := iszL_mem x.f3 y hy
      have h2 := isz_eq x
      omega
    · exact put_leaf x (by simpa using h0)
theorem put_end {b : Nat} {v : Value} {l : List UInt8} {w w' : World} (h : Wrote b b v w ([] ++ Lib.byteCells l) w') (h0 : l ≠ []) :
    Calls Try.prog 53 #[.pointer (some ⟨b, 0, none⟩)] w' fun e w2 => e = .returned (.string (baL l)) ∧ Below b w' w2 := by
  obtain ⟨_, v', hv, _⟩ := h
  refine (w_str b b _ v' l w' hv h0).mono ?_
  rintro e w2 ⟨rfl, hb, _⟩
  exact ⟨rfl, hb⟩
set_option maxHeartbeats 8000000 in
set_option maxRecDepth 100000 in
theorem wire_Put.calls (a0_0 : Bool) (a0_1 : Int) (a0_2 : ByteArray) (A0_3 : Option Addr) (c0_3 : Nat) (l0_3 : List (S44)) (r1 : ByteArray) (r2 : Int) (w : World) (hr0_3 : Kd.C k44 w A0_3 l0_3.length l0_3) (hc0_3 : l0_3.length ≤ c0_3) (h : wire_Put.f a0_0 a0_1 a0_2 l0_3 = some (r1, r2)) :
    Calls Try.prog 36 #[.agg #[.bool a0_0, .int .i64 a0_1, .string a0_2, .slice A0_3 l0_3.length c0_3]] w fun e w' => e = .returned (.tuple #[.string r1, .int .i64 r2]) ∧ Below w.heap.size w w' := by
  unfold wire_Put.f at h
  by_cases hz : isz ⟨a0_0, a0_1, a0_2, l0_3⟩ ≤ 3000
  case neg => rw [if_neg hz] at h; exact absurd h (by simp)
  rw [if_pos hz] at h
  have hva := valid_some ⟨a0_0, a0_1, a0_2, l0_3⟩ hz 24000 (Nat.le_refl _)
  have hpu := put_all _ ⟨a0_0, a0_1, a0_2, l0_3⟩ (Nat.le_refl _) 0
  have hne := wr_ne ⟨a0_0, a0_1, a0_2, l0_3⟩
  have hu44 := Try.underlying44
  by_cases hs : shp ⟨a0_0, a0_1, a0_2, l0_3⟩ 0 = true
  · rw [if_pos hs] at h
    simp only [Option.some.injEq, Prod.mk.injEq] at h
    obtain ⟨rfl, rfl⟩ := h
    rw [hs] at hva
    have HVA := Aside0.mk hva
    have HPU := Aside0.mk (hpu hs hz)
    have HNE := Aside0.mk hne
    have HR := Aside0.mk hr0_3
    have HC := Aside0.mk hc0_3
    have HB := Aside0.mk (Below.refl w.heap.size w)
    clear hva hpu hne hr0_3 hc0_3 hs hz
    go_enter Try.func36, Try.ntmps36
    go_upto_region 1 with (first | ((with_reducible refine gate_dst (N := 1) rfl ?_); refine box_event ?hg (N := 1) ?hd (cs := #[.bool a0_0, .int .i64 a0_1, .string a0_2, .slice A0_3 l0_3.length c0_3]) (t := 44) ?hr ?_; (case hd => rfl); (case hg => rfl); (case hr => first | (go_simp; done) | (go_simp; rfl)); intro gb1 hg w4 hbox hb; have n0_ := Aside0.mk (below_step HB.out hb); have n1_ := Aside0.mk hbox; have n2_ := Aside0.mk ((by rw [hg]; exact below_size HB.out) : w.heap.size ≤ gb1); clear HB; have HB := n0_; have BK1 := n1_; have GE1 := n2_; clear n0_ n1_ n2_; clear hb hbox hg))
    have hcx0 : w4.cell? ⟨gb1, 0, none⟩ = some (.bool a0_0) := (blk_cell BK1.out 0).trans rfl
    have hcx1 : w4.cell? ⟨gb1, 1, none⟩ = some (.int .i64 a0_1) := (blk_cell BK1.out 1).trans rfl
    have hcx2 : w4.cell? ⟨gb1, 2, none⟩ = some (.string a0_2) := (blk_cell BK1.out 2).trans rfl
    have hcx3 : w4.cell? ⟨gb1, 3, none⟩ = some (.slice A0_3 l0_3.length c0_3) := (blk_cell BK1.out 3).trans rfl
    go_upto_region 3 with (first | (go_at_call 41; (with_reducible refine (wire_Valid.calls 24000 a0_0 a0_1 a0_2 _ _ l0_3 true _ (Kd.C_below HR.out HB.out) HC.out HVA.out).mono ?_); rintro e w5 ⟨rfl, hb⟩; have n0_ := Aside0.mk (below_step HB.out hb); have n1_ := Aside0.mk (blk_below (g := gb1) (o := .cells #[.bool a0_0, .int .i64 a0_1, .string a0_2, .slice A0_3 l0_3.length c0_3] 44 (0, 0)) BK1.out hb); clear HB BK1; have HB := n0_; have BK1 := n1_; clear n0_ n1_ hb))
    clear hcx0 hcx1 hcx2 hcx3
    go_upto_region 4 with (first | ((with_reducible refine gate_dst (N := 4) rfl ?_); refine box_event ?hg (N := 4) ?hd (cs := #[.pointer none, .slice none 0 0]) (t := 68) ?hr ?_; (case hd => rfl); (case hg => rfl); (case hr => first | (go_simp; done) | (go_simp; rfl)); intro gb4 hg w6 hbox hb; have n0_ := Aside0.mk (below_step HB.out hb); have n1_ := Aside0.mk hbox; have n2_ := Aside0.mk ((by rw [hg]; exact below_size HB.out) : w.heap.size ≤ gb4); have n3_ := Aside0.mk (blk_below (g := gb1) (o := .cells #[.bool a0_0, .int .i64 a0_1, .string a0_2, .slice A0_3 l0_3.length c0_3] 44 (0, 0)) BK1.out hb); clear HB BK1; have HB := n0_; have BK4 := n1_; have GE4 := n2_; have BK1 := n3_; clear n0_ n1_ n2_ n3_; clear hb hbox hg))
    have hcx0 : w6.cell? ⟨gb1, 0, none⟩ = some (.bool a0_0) := (blk_cell BK1.out 0).trans rfl
    have hcx1 : w6.cell? ⟨gb1, 1, none⟩ = some (.int .i64 a0_1) := (blk_cell BK1.out 1).trans rfl
    have hcx2 : w6.cell? ⟨gb1, 2, none⟩ = some (.string a0_2) := (blk_cell BK1.out 2).trans rfl
    have hcx3 : w6.cell? ⟨gb1, 3, none⟩ = some (.slice A0_3 l0_3.length c0_3) := (blk_cell BK1.out 3).trans rfl
    have hbv : BV gb4 gb4 (.pointer none) (.slice none 0 0) [] w6 := ⟨Nat.le_refl _, BK4.out, rfl, .inl ⟨rfl, rfl⟩⟩
    have HPC := Aside0.mk (HPU.out w w6 gb4 gb4 (.pointer none) (.slice none 0 0) [] A0_3 c0_3 (.inl rfl) hbv (Nat.zero_le _) GE4.out (Nat.le_of_lt (blk_lt BK4.out)) HB.out HR.out HC.out)
    clear hbv
    go_wp2_with (first | (go_at_call 55; (with_reducible refine HPC.out.mono ?_); rintro e w7 ⟨rfl, hw⟩; have HW := Aside0.mk hw; clear hw) | (go_at_call 53; refine (put_end HW.out HNE.out).mono ?_; rintro e w8 ⟨rfl, hb⟩; have HE := Aside0.mk hb; clear hb))
    go_ret2
    exact ⟨rfl, HB.out.trans ((HW.out.1.trans HE.out).mono GE4.out)⟩
  · rw [if_neg hs] at h
    simp only [Option.some.injEq, Prod.mk.injEq] at h
    obtain ⟨rfl, rfl⟩ := h
    have hs' : shp ⟨a0_0, a0_1, a0_2, l0_3⟩ 0 = false := by simpa using hs
    rw [hs'] at hva
    have HVA := Aside0.mk hva
    have HR := Aside0.mk hr0_3
    have HC := Aside0.mk hc0_3
    have HB := Aside0.mk (Below.refl w.heap.size w)
    clear hva hpu hne hr0_3 hc0_3 hs hs' hz
    go_enter Try.func36, Try.ntmps36
    go_upto_region 1 with (first | ((with_reducible refine gate_dst (N := 1) rfl ?_); refine box_event ?hg (N := 1) ?hd (cs := #[.bool a0_0, .int .i64 a0_1, .string a0_2, .slice A0_3 l0_3.length c0_3]) (t := 44) ?hr ?_; (case hd => rfl); (case hg => rfl); (case hr => first | (go_simp; done) | (go_simp; rfl)); intro gb1 hg w4 hbox hb; have n0_ := Aside0.mk (below_step HB.out hb); have n1_ := Aside0.mk hbox; clear HB; have HB := n0_; have BK1 := n1_; clear n0_ n1_; clear hb hbox hg))
    have hcx0 : w4.cell? ⟨gb1, 0, none⟩ = some (.bool a0_0) := (blk_cell BK1.out 0).trans rfl
    have hcx1 : w4.cell? ⟨gb1, 1, none⟩ = some (.int .i64 a0_1) := (blk_cell BK1.out 1).trans rfl
    have hcx2 : w4.cell? ⟨gb1, 2, none⟩ = some (.string a0_2) := (blk_cell BK1.out 2).trans rfl
    have hcx3 : w4.cell? ⟨gb1, 3, none⟩ = some (.slice A0_3 l0_3.length c0_3) := (blk_cell BK1.out 3).trans rfl
    go_wp2_with (first | (go_at_call 41; (with_reducible refine (wire_Valid.calls 24000 a0_0 a0_1 a0_2 _ _ l0_3 false _ (Kd.C_below HR.out HB.out) HC.out HVA.out).mono ?_); rintro e w5 ⟨rfl, hb⟩; have n0_ := Aside0.mk (below_step HB.out hb); clear HB; have HB := n0_; clear n0_ hb))
    go_ret2
    exact ⟨rfl, HB.out⟩
end Go.Proofs.Ytkgijkfcmbpgpaa.Giv
end
