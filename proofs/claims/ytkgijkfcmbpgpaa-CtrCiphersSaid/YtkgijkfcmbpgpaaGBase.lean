/- Small lemmas on arrays that lie in a block of their own (cells of one integer kind), for the hand-typed walks. -/
import Derived.Test.YtkgijkfcmbpgpaaPSubx1
import Derived.Outline
import Derived.Laws.Tables
namespace Go.Proofs.Ytkgijkfcmbpgpaa.Giv
open Go.RowKit Go.Proofs.YtkgijkfcmbpgpaaW.PrintWords Go.Proofs.YtkgijkfcmbpgpaaW.PrintLast Go.Proofs.YtkgijkfcmbpgpaaW.PrintMore Go.Proofs.Ytkgijkfcmbpgpaa.PSub

/-- The cells of an array of integers of kind q. -/
def AK (q : IntKind) (l : List Int) : Array Value := (l.map (Value.int q)).toArray
theorem AK_size (q : IntKind) (l : List Int) : (AK q l).size = l.length := by simp [AK]
theorem AK_get (q : IntKind) (l : List Int) (i : Nat) (h : i < l.length) : (AK q l)[i]? = some (.int q (l.getD i 0)) := by simp [AK, h]
theorem AK_set (q : IntKind) (l : List Int) (i : Nat) (x : Int) : (AK q l).setIfInBounds i (.int q x) = AK q (l.set i x) := by simp [AK, List.map_set]
theorem AK_one (q : IntKind) (l : List Int) : (AK q l).all (·.oneCell') = true := by simp [AK, Value.oneCell']
theorem AK_cell {q : IntKind} {w : World} {g : Nat} {t : TypeId} {fr : Nat × Nat} {l : List Int} (h : w.heap[g]? = some (.cells (AK q l) t fr)) (i : Nat) (hi : i < l.length) :
    w.cell? ⟨g, i, none⟩ = some (.int q (l.getD i 0)) := (cell_of_row w g i _ t _ h).trans (AK_get q l i hi)
/-- A store of one element. -/
theorem AK_store {q : IntKind} {w : World} {g : Nat} {t : TypeId} {l : List Int} (h : w.heap[g]? = some (.cells (AK q l) t (0, 0))) (i : Nat) (x : Int) :
    (w.setCell ⟨g, i, none⟩ (.int q x)).heap[g]? = some (.cells (AK q (l.set i x)) t (0, 0)) := by
  rw [heap_setCell_same w g i _ t _ h, AK_set]
theorem below_setRow {B g : Nat} {w0 w : World} (hb : Below B w0 w) (hBg : B ≤ g) (cs : Array Value) : Below B w0 (w.setRow g cs) :=
  hb.trans ⟨rfl, rfl, rfl, by simp, fun k hk => setRow_other w g k cs (by omega)⟩
theorem heap_old {w wr : World} {B g : Nat} (h : Below B w wr) (hg : g < B) : wr.heap[g]? = w.heap[g]? := h.block g hg
/-- An element of an array that is a value. -/
theorem run_index_AK {P : Program} {T : TypeId} {q : IntKind} {l : List Int} {n : Nat} {e : TypeId} (hu : P.underlying T = some (.array n e)) (hn : l.length = n)
    (ha : ∀ w, (isAgg e).run P w = .ok false w) (hs : ∀ w, (sizeOf e).run P w = .ok 1 w) (i : Nat) (hi : i < l.length) (w : World) :
    (Instr.index T (.agg (AK q l)) (.int .i64 i)).run P w = .ok (.int q (l.getD i 0)) w := by
  have h1 : (0 : Int) ≤ (i : Int) ∧ (i : Int) < (n : Int) := ⟨by omega, by omega⟩
  unfold Instr.index
  simp [Sem.run_bind, asIntOf, run_underlying hu, h1, hs, part, ha, AK_get q l i hi]
  all_goals omega
end Go.Proofs.Ytkgijkfcmbpgpaa.Giv
