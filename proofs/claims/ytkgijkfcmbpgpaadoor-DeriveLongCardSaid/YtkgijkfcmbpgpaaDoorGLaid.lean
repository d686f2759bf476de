/- What the rows' condition on the two listed variables gives the walks; and a world that meets it. -/
import Derived.Test.YtkgijkfcmbpgpaaDoorRows
import Derived.Test.YtkgijkfcmbpgpaaDoorGWorld
import Derived.Lib.LaidTab
import Derived.ProofKit
import Derived.LaidMore
import Derived.OpenShut
import Derived.Stop.Joined
namespace Go.Proofs.YtkgijkfcmbpgpaaDoor.Giv
open Go.ChangeShapes Go.WideShapes Go.ChangeAt Go.RowKit Go.Proofs.YtkgijkfcmbpgpaaDoor

theorem own : ownKnob Tryd.prog.godebug = none := by kernel_rfl
theorem gFirst : Tryd.prog.globalNamed "legate/sha.first" = some 0 := by kernel_rfl
theorem gKeys : Tryd.prog.globalNamed "legate/sha.keys" = some 1 := by kernel_rfl
theorem tFirst : (Tryd.prog.globals[0]?).map (·.type) = some 58 := by kernel_rfl
theorem tKeys : (Tryd.prog.globals[1]?).map (·.type) = some 74 := by kernel_rfl
abbrev laidL {H : Type} : List (String × DataW H) := [("legate/sha.keys", Rows.laid_legate_sha_keys), ("legate/sha.first", Rows.laid_legate_sha_first)]

theorem door_met (os : Os) (args : Array Value) : laidMetH Tryd.prog laidL ((World.doorLaid Tryd.prog 19 os).forCall (fun _ _ => 0) ⟨#[], args, []⟩).memory :=
  laidMetH_of_parts3 (fuel := 8) (laidMet_of_run' 8 (by kernel_rfl) (by kernel_rfl)) (by kernel_rfl) (by kernel_rfl)

theorem heap_of_var {w : World} {n : String} {g : Nat} {cs : Array Value} (hg : Tryd.prog.globalNamed n = some g) (hv : w.var? Tryd.prog n = some cs) : ∃ t fr, w.heap[g]? = some (.cells cs t fr) := by
  unfold World.var? at hv
  rw [hg] at hv
  simp only [Option.bind_some] at hv
  split at hv
  · rename_i c t fr h
    cases hv
    exact ⟨t, fr, h⟩
  · cases hv

theorem GW.of_laid {W : World} (h : laidMetH Tryd.prog laidL W) : GW W := by
  rw [MakeChecks.laidMetH_plain _ _ _ (by kernel_rfl)] at h
  obtain ⟨ps, ⟨g0, t0, cs0, f0, p0, q0, hg0, ht0, hv0, hd0, ⟨g1, t1, cs1, f1, p1, q1, hg1, ht1, hv1, hd1, _, _⟩, _⟩, _, _⟩ := h
  obtain rfl := Option.some.inj (gKeys.symm.trans hg0)
  obtain rfl := Option.some.inj (gFirst.symm.trans hg1)
  obtain rfl := Option.some.inj (tKeys.symm.trans ht0)
  obtain rfl := Option.some.inj (tFirst.symm.trans ht1)
  have k0 := Lib.cells_of_tab (k := .u32) (zs := keysL) Tryd.underlying74 Tryd.underlying56 (by kernel_rfl) (by kernel_rfl) hd0
  have k1 := Lib.cells_of_tab (k := .u32) (zs := firstL) Tryd.underlying58 Tryd.underlying56 (by kernel_rfl) (by kernel_rfl) hd1
  have e0 : cs0 = AK .u32 keysL := by
    apply Array.ext'
    rw [k0]; rfl
  have e1 : cs1 = AK .u32 firstL := by
    apply Array.ext'
    rw [k1]; rfl
  subst e0
  subst e1
  exact ⟨heap_of_var hg1 hv1, heap_of_var hg0 hv0⟩
end Go.Proofs.YtkgijkfcmbpgpaaDoor.Giv
