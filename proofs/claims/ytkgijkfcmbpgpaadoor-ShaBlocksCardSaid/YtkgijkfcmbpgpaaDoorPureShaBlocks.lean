/- ShaBlocks: a state behind any block, the first state, and what is laid behind a text of any length, is just what the document says. -/
import Derived.Test.YtkgijkfcmbpgpaaDoorMRef5
namespace Go.Proofs.YtkgijkfcmbpgpaaDoor.Pure
open Go.RowKit Go.Proofs.YtkgijkfcmbpgpaaDoor.PAll Go.Proofs.YtkgijkfcmbpgpaaDoorW.PrintWords Go.Proofs.YtkgijkfcmbpgpaaDoorW.PrintLast
open Go.Proofs.YtkgijkfcmbpgpaaDoor.Giv
set_option linter.unusedVariables false
set_option linter.unusedSimpArgs false

theorem ShaBlocks : legatelaw02_ShaBlocks.Pure := by
  intro st b n _ _ _
  refine ⟨6000, ?_⟩
  unfold legatelaw02_ShaBlocks.f
  rw [works02_ge _ (by omega)]
  simp only [Option.bind_some, if_true]
  obtain ⟨r, hr⟩ : ∃ r, sha_Block.f st b = some r := by
    unfold sha_Block.f
    split
    · exact ⟨_, rfl⟩
    · exact ⟨_, rfl⟩
  obtain ⟨p, hp⟩ : ∃ p, sha_Pad.f 6000 n = some p := by
    by_cases h : n < 0
    · exact ⟨_, pad_neg _ n h⟩
    · exact ⟨_, pad_ge _ (by omega) n (by omega)⟩
  rw [hr, keys_ref _ (by omega)]
  simp only [Option.bind_some, if_true]
  rw [ref_block _ _ _ (by omega), hr]
  simp only [Option.bind_some, if_true]
  rw [start_st, start_ref _ (by omega)]
  simp only [Option.bind_some, if_true]
  rw [pad_same, hp]
  simp only [Option.bind_some, if_true]
  simp

end Go.Proofs.YtkgijkfcmbpgpaaDoor.Pure
