/- The world's fact on which the walks of this seat lean: the two tables of package sha hold what the program's text lays. -/
import Derived.Test.YtkgijkfcmbpgpaaDoorGBase
namespace Go.Proofs.YtkgijkfcmbpgpaaDoor.Giv
open Go.RowKit Go.Proofs.YtkgijkfcmbpgpaaDoorW.PrintWords

/-- The first state. -/
def firstL : List Int := [1779033703, 3144134277, 1013904242, 2773480762, 1359893119, 2600822924, 528734635, 1541459225]
/-- The 64 words. -/
def keysL : List Int := [1116352408, 1899447441, 3049323471, 3921009573, 961987163, 1508970993, 2453635748, 2870763221, 3624381080, 310598401, 607225278, 1426881987, 1925078388, 2162078206, 2614888103, 3248222580, 3835390401, 4022224774, 264347078, 604807628, 770255983, 1249150122, 1555081692, 1996064986, 2554220882, 2821834349, 2952996808, 3210313671, 3336571891, 3584528711, 113926993, 338241895, 666307205, 773529912, 1294757372, 1396182291, 1695183700, 1986661051, 2177026350, 2456956037, 2730485921, 2820302411, 3259730800, 3345764771, 3516065817, 3600352804, 4094571909, 275423344, 430227734, 506948616, 659060556, 883997877, 958139571, 1322822218, 1537002063, 1747873779, 1955562222, 2024104815, 2227730452, 2361852424, 2428436474, 2756734187, 3204031479, 3329325298]
/-- The two package-level variables hold them. -/
def GW (w : World) : Prop := (∃ t fr, w.heap[0]? = some (.cells (AK .u32 firstL) t fr)) ∧ ∃ t fr, w.heap[1]? = some (.cells (AK .u32 keysL) t fr)
theorem GW.below {w w' : World} (h : GW w) (hb : Below w.heap.size w w') : GW w' := by
  obtain ⟨⟨t, fr, h0⟩, t', fr', h1⟩ := h
  have l0 : 0 < w.heap.size := (Array.getElem?_eq_some_iff.1 h0).1
  have l1 : 1 < w.heap.size := (Array.getElem?_eq_some_iff.1 h1).1
  exact ⟨⟨t, fr, (hb.block 0 l0).trans h0⟩, t', fr', (hb.block 1 l1).trans h1⟩
theorem GW.key {w : World} (h : GW w) (i : Nat) (hi : i < 64) : w.cell? ⟨1, i, none⟩ = some (.int .u32 (keysL.getD i 0)) := by
  obtain ⟨_, t', fr', h1⟩ := h
  exact AK_cell h1 i (by simpa [keysL] using hi)
theorem GW.lt {w : World} (h : GW w) : 1 < w.heap.size := by
  obtain ⟨_, t', fr', h1⟩ := h
  exact (Array.getElem?_eq_some_iff.1 h1).1
end Go.Proofs.YtkgijkfcmbpgpaaDoor.Giv
