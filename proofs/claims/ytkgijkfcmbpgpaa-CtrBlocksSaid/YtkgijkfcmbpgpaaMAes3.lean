/- The reference's keys and its encryption: the same as the program's. -/
import Derived.Test.YtkgijkfcmbpgpaaMAes2
import Derived.Test.YtkgijkfcmbpgpaaPAllx4
namespace Go.Proofs.Ytkgijkfcmbpgpaa.Giv
open Go.RowKit Go.Proofs.YtkgijkfcmbpgpaaW.PrintWords Go.Proofs.YtkgijkfcmbpgpaaW.PrintLast Go.Proofs.YtkgijkfcmbpgpaaW.PrintMore Go.Proofs.Ytkgijkfcmbpgpaa.PAll
set_option linter.unusedVariables false
set_option linter.unusedSimpArgs false

/-- A row of which the first n are new. -/
def bl (f : Nat → Int) (s : List Int) (n : Nat) : List Int := (List.range s.length).map fun i => if i < n then f i else s.getD i 0
theorem bl_len (f : Nat → Int) (s : List Int) (n : Nat) : (bl f s n).length = s.length := by simp [bl]
theorem bl_at (f : Nat → Int) (s : List Int) (n i : Nat) (hi : i < s.length) : (bl f s n).getD i 0 = if i < n then f i else s.getD i 0 := by
  simp [bl, List.getD_eq_getElem?_getD, hi]
theorem list_ext {a b : List Int} (hl : a.length = b.length) (h : ∀ i, i < a.length → a.getD i 0 = b.getD i 0) : a = b := by
  apply List.ext_getElem hl
  intro i h1 h2
  have := h i h1
  simpa [List.getD_eq_getElem?_getD, h1, h2] using this
theorem set_at (L : List Int) (i j : Nat) (x : Int) (hj : j < L.length) : (L.set i x).getD j 0 = if i = j then x else L.getD j 0 := by
  by_cases h : i = j
  · subst h; simp [List.getD_eq_getElem?_getD, hj]
  · simp [List.getD_eq_getElem?_getD, h]
theorem bl_zero (f : Nat → Int) (s : List Int) : bl f s 0 = s := by
  refine list_ext (bl_len _ _ _) fun i hi => ?_
  rw [bl_len] at hi
  rw [bl_at f s 0 i hi, if_neg (by omega)]
theorem bl_set (f : Nat → Int) (s : List Int) (n : Nat) : (bl f s n).set n (f n) = bl f s (n + 1) := by
  refine list_ext (by rw [List.length_set, bl_len, bl_len]) fun i hi => ?_
  rw [List.length_set, bl_len] at hi
  rw [set_at _ _ _ _ (by rw [bl_len]; exact hi), bl_at f s n i hi, bl_at f s (n + 1) i hi]
  by_cases h : n = i
  · subst h; rw [if_pos rfl, if_pos (by omega)]
  · rw [if_neg h]
    by_cases h2 : i < n
    · rw [if_pos h2, if_pos (by omega)]
    · rw [if_neg h2, if_neg (by omega)]
/-! The program's steps, as rows. -/
/-! Sums and products of the reference. -/
/-! The reference's rounds. -/
end Go.Proofs.Ytkgijkfcmbpgpaa.Giv
