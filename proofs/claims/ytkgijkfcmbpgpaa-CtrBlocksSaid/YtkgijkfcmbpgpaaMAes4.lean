/- The reference's keys and its encryption, whole: the same as the program's. -/
import Derived.Test.YtkgijkfcmbpgpaaMAes3
namespace Go.Proofs.Ytkgijkfcmbpgpaa.Giv
open Go.RowKit Go.Proofs.YtkgijkfcmbpgpaaW.PrintWords Go.Proofs.YtkgijkfcmbpgpaaW.PrintLast Go.Proofs.YtkgijkfcmbpgpaaW.PrintMore Go.Proofs.Ytkgijkfcmbpgpaa.PAll
set_option linter.unusedVariables false
set_option linter.unusedSimpArgs false

theorem strN_size (l : List Int) : (strOfNums l).size = l.length := by simp [strOfNums, ByteArray.size]
theorem bytesOf_at (s : ByteArray) (i : Nat) : (bytesOf s).getD i 0 = bt s (i : Int) := by
  unfold bt
  by_cases h : i < s.size
  · rw [dif_pos (by simpa using h)]
    have h' : i < s.data.toList.length := by rw [data_length]; exact h
    simp only [bytesOf, List.getD_eq_getElem?_getD, List.getElem?_map, List.getElem?_eq_getElem h', Option.map_some, Option.getD_some, Int.toNat_natCast]
    rfl
  · rw [dif_neg (by simpa using h)]
    have h' : s.data.toList.length ≤ i := by rw [data_length]; omega
    simp [bytesOf, List.getD_eq_getElem?_getD, List.getElem?_eq_none h']
theorem strN_at (l : List Int) (h8 : U8s l) (i : Nat) (hi : i < l.length) : bt (strOfNums l) (i : Int) = l.getD i 0 := by
  rw [← bytesOf_at]
  have h := h8 _ (List.getElem_mem hi)
  unfold U8 at h
  have e : (bytesOf (strOfNums l)).getD i 0 = ((UInt8.ofNat (l[i]).toNat).toNat : Int) := by
    simp [bytesOf, strOfNums, List.getD_eq_getElem?_getD, hi]
  rw [e, List.getD_eq_getElem?_getD, List.getElem?_eq_getElem hi, Option.getD_some, UInt8.toNat_ofNat']
  omega
/-! The keys. -/
/-! The encryption. -/
end Go.Proofs.Ytkgijkfcmbpgpaa.Giv
