/- A range over a function that never ends by itself: the loop's body breaks, at the latest in round N. -/
import Derived.Test.YtkgijkfcmbpgpaaGBuild
import Derived.RangeFuncNested
import Derived.RangeFuncBound
import Derived.RangeFuncCalls
import Derived.RangeFuncLeaves
import Derived.Shelf.Abstract
import Derived.Shelf.RegionOpen
import Derived.WalkKit
import Derived.OwnWalkIn
import Derived.TacticsInMore
import Derived.LoopNIn
import Derived.LoopIn
namespace Go.Proofs.Ytkgijkfcmbpgpaa.Giv
open Go.RowKit Go.Shelf
set_option linter.unusedVariables false
set_option linter.unusedSimpArgs false
/-- What such an iterator is asked: at an invariant that bounds the rounds, it ends by a round that has said 'no more'. -/
def Endless (F : Fence) (n : Nat) (P : Program) (g : Nat) (lb : Array Value) (Kp : World → World → Prop) (Xp : List ByteArray → ByteArray → Prop) (N : Nat) (Sp : List ByteArray → Prop) (w : World) : Prop :=
  ∀ (l : Nat) (J Jx : List ByteArray → World → Prop) (W : World), Below w.heap.size w W →
    (∀ s A B, J s A → A.grownBy B none → J s B) → (∀ s A B, Jx s A → A.grownBy B none → Jx s B) →
    (∀ pre W1, J pre W1 → pre.length < N) →
    (∀ pre x W1, Xp pre x → J pre W1 → YieldAt F (n - 1) P l #[.string x] W1 fun e W' =>
      (e = .returned (.bool true) ∧ J (pre ++ [x]) W' ∧ Kp W1 W') ∨ (e = .returned (.bool false) ∧ Jx (pre ++ [x]) W')) →
    J [] W →
    CallsIn F n P g (#[.func (.yield l) #[] #[]] ++ lb) W fun e W' => (∃ v, e = .returned v) ∧ ∃ pre, Sp pre ∧ Jx pre W'
/-- How the body of a round may be left: it goes on, or it breaks. -/
def postB (Kp : World → World → Prop) (I Ix : List ByteArray → World → Prop) (id : Nat) (xs : List ByteArray) (W : World) : Exit → Act → World → Prop
  | .normal, _, W' => KeepsOthers W W' ∧ Kp W W' ∧ I xs W'
  | .exit k, _, W' => k = id ∧ KeepsOthers W W' ∧ Ix xs W'
  | _, _, _ => False
variable {F : Fence} {n : Nat} {P : Program}
theorem wpIn_range_endless {g : Operand} {p : Tmp} {assign body : Code} {Q : Exit → Act → World → Prop} {a : Act} {w : World}
    (hro : F.round = none) (h1 : 1 ≤ n) {gf : Nat} {lb : Array Value} (hg : a.eval g = .func (.func gf) #[] lb) (hFg : F.fn gf) (eg : ∀ args w, (callFunc gf args).run P w = .ok (.enter gf args) w)
    {N id : Nat} {Kp : World → World → Prop} {Xp : List ByteArray → ByteArray → Prop} {Sp : List ByteArray → Prop} (hKt : ∀ A B C, Kp A B → Kp B C → Kp A C) (hKb : ∀ (W : World) (l : Nat) (o : Obj) (r : Loop), W.heap[l]? = some (.loop r) → Kp W (W.putObj l o)) (hseq : Endless F (n - 1) P gf lb Kp Xp N Sp w)
    (I Ix : List ByteArray → World → Prop) (hI : OwnFrom w.heap.size I) (hIx : OwnFrom w.heap.size Ix) (hN : ∀ pre W, I pre W → pre.length < N) (h0 : I [] w) (a₁ : ByteArray → Act)
    (hassign : ∀ (l : Nat) (x : ByteArray) (W : World) (K : Act → World → Prop), K (a₁ x) W →
      assign.wpIn (F.inRound l) (n - 1 - 1) P (Exit.then K (fun _ _ _ => False)) { tmps := a.tmps.setIfInBounds p (.string x), defers := [] } W)
    (hbody : ∀ (l : Nat) (pre : List ByteArray) (x : ByteArray) (W : World), Xp pre x → I pre W → body.wpIn (F.inRound l) (n - 1 - 1) P (postB Kp I Ix id (pre ++ [x]) W) (a₁ x) W)
    (hstop : ∀ (D : Nat) (pre : List ByteArray) (W : World), w.heap.size ≤ D → Sp pre → Ix pre W → W.heap[D]? = some (.deferred (some [])) → (Code.exit id).wpIn F n P Q { a with defers := { target := .collected D, args := #[] } :: a.defers } W) :
    (Code.rangeFunc g #[p] assign body).wpIn F n P Q a w := by
  refine wpIn_rangeFunc fun fn hfn => ?_
  rw [hro]
  let rec0 : LoopState → Option Code → Loop := fun st pe => { state := st, pending := pe, fn, tmps := a.tmps, params := #[p], assign, body, defers := w.heap.size }
  obtain ⟨W1, hW1⟩ : ∃ W1, (w.alloc (.deferred (some []))).alloc (.loop (rec0 .ready none)) = W1 := ⟨_, rfl⟩
  have hL1 : W1.heap[w.heap.size + 1]? = some (.loop (rec0 .ready none)) := by
    rw [← hW1]; exact heap_alloc2_new w (.deferred (some [])) (.loop (rec0 .ready none))
  have hK1 : W1.heap[w.heap.size]? = some (.deferred (some [])) := by
    rw [← hW1]; exact heap_alloc2_old w (.deferred (some [])) (.loop (rec0 .ready none))
  have hI1 : I [] W1 := by rw [← hW1]; exact hI.alloc _ (hI.alloc _ h0)
  have hb1 : Below w.heap.size w W1 := by rw [← hW1]; exact ((Below.refl _ w).alloc (Nat.le_refl _) _).alloc (by simp) _
  refine ⟨w.heap.size + 1, [{ target := .collected w.heap.size, args := #[] }], W1, { target := .fn (.func gf) lb, args := #[.func (.yield (w.heap.size + 1)) #[] #[]] }, W1, gf,
    #[.func (.yield (w.heap.size + 1)) #[] #[]] ++ lb, W1, by rw [← hW1]; exact run_enterLoop_outer _ _ _ _ _, by simp only [resolve, hg]; simp [go_sem], fun f' hf' => by simp [Target.leads] at hf'; subst hf'; exact hFg, by simp [invoke, go_sem, eg], fun _ => h1, ?_⟩
  have keep : ∀ {A B : World} {k : Nat} {o : Obj}, A.grownBy B none → A.heap[k]? = some o → B.heap[k]? = some o := fun hg' h => (hg'.block _ (Array.getElem?_eq_some_iff.1 h).1 (by simp)).trans h
  refine (hseq (w.heap.size + 1)
    (fun pre W => I pre W ∧ W.heap[w.heap.size + 1]? = some (.loop (rec0 .ready none)) ∧ W.heap[w.heap.size]? = some (.deferred (some [])))
    (fun pre W => Ix pre W ∧ W.heap[w.heap.size + 1]? = some (.loop (rec0 .done (some (.exit id)))) ∧ W.heap[w.heap.size]? = some (.deferred (some [])))
    W1 hb1 (fun s A B h hg' => ⟨hI s A B none h.1 hg' (fun r e => by cases e), keep hg' h.2.1, keep hg' h.2.2⟩)
    (fun s A B h hg' => ⟨hIx s A B none h.1 hg' (fun r e => by cases e), keep hg' h.2.1, keep hg' h.2.2⟩) (fun pre W h => hN pre W h.1) ?_ ⟨hI1, hL1, hK1⟩).mono ?_
  · rintro pre x W hxp ⟨hi, hl, hk⟩
    have hlt : w.heap.size + 1 < W.heap.size := (Array.getElem?_eq_some_iff.1 hl).1
    have hy : (Instr.yield (w.heap.size + 1) #[.string x]).run P W = .ok (.round (w.heap.size + 1) fn (a.tmps.setIfInBounds p (.string x)) assign body) W := (run_yield (P := P) (args := #[.string x]) hl rfl).trans (by simp [rec0])
    refine ⟨fn, a.tmps.setIfInBounds p (.string x), assign, body, hy, roundIn_of_wpIn hfn ?_⟩
    refine hassign _ x W _ ?_
    refine ⟨_, run_beginRound hl rfl, ?_⟩
    have hl2 : (W.putObj (w.heap.size + 1) (.loop (rec0 .busy none))).heap[w.heap.size + 1]? = some (.loop (rec0 .busy none)) := World.putObj_heap_same hlt
    have hk2 : (W.putObj (w.heap.size + 1) (.loop (rec0 .busy none))).heap[w.heap.size]? = some (.deferred (some [])) := (World.putObj_heap_other (by omega)).trans hk
    have hb2 : Kp W (W.putObj (w.heap.size + 1) (.loop (rec0 .busy none))) := hKb W _ _ _ hl
    refine wpIn_mono (hbody _ pre x _ hxp (hI.putObj _ hi (by omega) hl rfl)) ?_
    rintro e a3 W3 hp
    cases e with
    | normal =>
      obtain ⟨hk3, hb3, hi3⟩ := hp
      have hl3 := hk3.same _ _ hl2 rfl
      have hr := run_endRound (P := P) none hl3
      exact ⟨_, _, hr, .inl ⟨rfl, ⟨hI.putObj _ hi3 (by omega) hl3 rfl, World.putObj_heap_same (Array.getElem?_eq_some_iff.1 hl3).1, (World.putObj_heap_other (by omega)).trans (hk3.same _ _ hk2 rfl)⟩, hKt _ _ _ (hKt _ _ _ hb2 hb3) (hKb W3 _ _ _ hl3)⟩⟩
    | exit k =>
      obtain ⟨rfl, hk3, hi3⟩ := hp
      have hl3 := hk3.same _ _ hl2 rfl
      have hr := run_endRound (P := P) (some (.exit k)) hl3
      exact ⟨_, _, hr, .inr ⟨rfl, hIx.putObj _ hi3 (by omega) hl3 rfl, World.putObj_heap_same (Array.getElem?_eq_some_iff.1 hl3).1, (World.putObj_heap_other (by omega)).trans (hk3.same _ _ hk2 rfl)⟩⟩
    | ret => exact hp.elim
    | goto t => exact hp.elim
    | panic ch => exact hp.elim
    | outgrown => exact hp.elim
  · rintro e W2 ⟨⟨v, rfl⟩, pre, hSp, hi, hl, hk⟩
    exact ⟨some (.exit id), _, run_endLoop (P := P) hl (by simp [rec0]), hstop _ pre _ (Nat.le_refl _) hSp (hIx.putObj _ hi (by omega) hl rfl) ((World.putObj_heap_other (by omega)).trans hk)⟩
end Go.Proofs.Ytkgijkfcmbpgpaa.Giv
