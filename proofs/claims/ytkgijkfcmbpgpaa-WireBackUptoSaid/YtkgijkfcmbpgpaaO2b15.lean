/- Joined by wip/pack.py out of: PureWireBack; what nothing here names is left out. -/
import Derived.ArgAppend
import Derived.Below
import Derived.BigQuiet
import Derived.Deep.AppendLies
import Derived.Deep.CutBlock
import Derived.Deep.DeepCutAuto
import Derived.Deep.Draws
import Derived.Deep.LoopGhost
import Derived.Deep.OwnRows
import Derived.Deep.QuietTactic
import Derived.Deep.RegionHeld3
import Derived.KernelRfl
import Derived.Laws.BitsLemmas
import Derived.Laws.BytesArg
import Derived.Laws.IdiomCopy
import Derived.Laws.MakeOwn
import Derived.Laws.OwnMore
import Derived.Laws.Rows
import Derived.Laws.Slices
import Derived.Laws.StructEq
import Derived.Lib.AppendStr
import Derived.Lib.ConvBytes
import Derived.Maps.AppendAt
import Derived.OrdersHeld
import Derived.OwnWalk
import Derived.RowKit
import Derived.RowKit3
import Derived.Shelf.Strings.Builder1
import Derived.Shelf.Strings.BuilderF
import Derived.Shelf.Strings.BuilderK
import Derived.Tactics
import Derived.WalkKit
import Derived.WideLaws
import Derived.Test.YtkgijkfcmbpgpaaO2b13
import Derived.Test.YtkgijkfcmbpgpaaO2b14
import Derived.Test.YtkgijkfcmbpgpaaProg
section
namespace Go.Proofs.Ytkgijkfcmbpgpaa.Pure
open Go.RowKit Go.Proofs.Ytkgijkfcmbpgpaa.PWir Go.Proofs.YtkgijkfcmbpgpaaW.PrintWords Go.Proofs.YtkgijkfcmbpgpaaW.PrintLast
open Go.Proofs.Ytkgijkfcmbpgpaa.Giv
set_option linter.unusedVariables false
set_option linter.unusedSimpArgs false

/-- A beginning of what is written is short. -/
theorem hd_short (x : S44) (hs : shp x 0 = true) (hz : isz x ≤ 3000) (c : Nat) (hc : c < (wr x).length) : hdV ((wr x).take c) 0 0 = (false, 0, ⟨#[]⟩, [], 0, 0, 10) := by
  have ht := shp_tag x 0 hs
  have hw := wr_len x
  obtain ⟨body, hb⟩ : ∃ body, body = if x.f0 then wrL x.f3 else x.f2.data.toList := ⟨_, rfl⟩
  have e0 : wr x = tagB x.f0 x.f1 :: (lenL body.length ++ body) := by rw [wr_eq, hb]; split <;> rfl
  have hln := lenL_len body.length
  have hlw : (wr x).length = 1 + (lenL body.length).length + body.length := by rw [e0]; simp; omega
  have htn : (tagB x.f0 x.f1).toNat = x.f1.toNat + if x.f0 then 128 else 0 := by
    unfold tagB
    rw [toNat_of]
    split <;> omega
  have hmod : ¬ (x.f1.toNat + if x.f0 then 128 else 0) % 128 = 0 := by cases x.f0 <;> simp <;> omega
  unfold hdV
  rw [if_neg (by omega)]
  cases c with
  | zero => rw [List.take_zero, if_pos rfl]
  | succ c =>
    have hg : ((wr x).take (c + 1)).getD 0 0 = tagB x.f0 x.f1 := by rw [e0]; rfl
    have hne : ¬ (wr x).take (c + 1) = [] := by rw [e0]; simp
    rw [if_neg hne, hg, htn, if_neg hmod]
    have hct : (wr x).take (c + 1) = tagB x.f0 x.f1 :: ((lenL body.length ++ body).take c) := by rw [e0]; rfl
    by_cases h1 : (lenL body.length).length ≤ c
    · have hsplit : (lenL body.length ++ body).take c = lenL body.length ++ body.take (c - (lenL body.length).length) := by
        rw [List.take_append, List.take_of_length_le h1]
      have hnum : numS ((wr x).take (c + 1)) = (body.length, 1 + (lenL body.length).length, 0) := by
        rw [hct, hsplit]
        exact numS_len _ _ _ (by omega)
      have hll : ((wr x).take (c + 1)).length = c + 1 := by simp; omega
      rw [hnum, hll, if_neg (by simp), if_neg (by simp only; omega), if_pos (by simp only; omega), if_neg (by omega)]
    · have hnum : numS ((wr x).take (c + 1)) = (0, 0, 10) := by
        rw [hct]
        exact num_cut _ _ _ c (by omega) (by omega)
      rw [hnum, if_pos (by simp)]
      rfl
theorem back_out (k : Nat) (x : S44) (rest : ByteArray) (cut : Int) : legatelaw01_WireBack.j0 (k + 1) rest cut true true x.f0 x.f1 x.f2 x.f3 = some true := by
  rw [legatelaw01_WireBack.j0, if_pos rfl]
theorem back_in (k : Nat) (hk : 40000 ≤ k) (x : S44) (rest : ByteArray) (cut : Int) (hx : isz x ≤ 2000) (hr : rest.size ≤ 2000) : legatelaw01_WireBack.j0 (k + 1 + 1) rest cut true false x.f0 x.f1 x.f2 x.f3 = some true := by
  have hw := wr_len x
  have hrl : rest.data.toList.length = rest.size := by simp
  have hp := put_some x (by omega)
  have hv := valid_some x (by omega) (k + 1) (by omega)
  rw [legatelaw01_WireBack.j0, if_neg (by simp), hp, Option.bind_some]
  by_cases hs : shp x 0 = true
  · have hg := get_some x hs (by omega) (k + 1) (by omega)
    have hf := First_some x rest.data.toList hs (by omega) (by omega) (k + 1) (by omega)
    rw [← baL_app, ← baL_of] at hf
    have hse := same_some x x (by omega)
    rw [sameB_refl] at hse
    rw [if_pos hs]
    simp only
    rw [if_pos trivial, hg, Option.bind_some, if_pos (by rw [baL_size]; omega), hf, Option.bind_some]
    simp only
    rw [if_pos trivial, if_pos trivial, if_pos (by rw [baL_size]), hse, Option.bind_some, if_pos rfl, Option.bind_some, legatelaw01_WireBack.j1, if_neg (by simp)]
    by_cases h1 : cut < 0
    · rw [if_pos h1]
    rw [if_neg h1]
    by_cases h2 : cut ≥ ((baL (wr x)).size : Int)
    · rw [if_pos h2]
    rw [if_neg h2, if_pos (by omega), if_pos (by omega)]
    rw [baL_size] at h2
    obtain ⟨c, rfl⟩ : ∃ c : Nat, cut = (c : Int) := ⟨cut.toNat, by omega⟩
    have hc : c < (wr x).length := by omega
    have hd := head_some ((wr x).take c) 0 0 (k - 1) (by simp; omega) (by omega) (by omega)
    rw [hd_short x hs (by omega) c hc] at hd
    have hgs : wire_Get.f k (baL ((wr x).take c)) = some (false, 0, ⟨#[]⟩, [], 10) := by
      unfold wire_Get.f wire_First.f
      have hfs : wire_reader_first.f k 0 0 (baL ((wr x).take c)) = some (false, 0, ⟨#[]⟩, [], 0, 10) := by
        obtain ⟨k, rfl⟩ : ∃ j, k = j + 1 := ⟨k - 1, by omega⟩
        have hd' : wire_reader_head.f k 0 0 (baL ((wr x).take c)) = _ := hd
        rw [wire_reader_first.f, hd', Option.bind_some]
        simp only
        rw [if_neg (by omega)]
      rw [hfs, Option.bind_some, Option.bind_some]
      simp only
      rw [if_neg (by omega)]
    rw [Int.toNat_natCast, baL_ext, List.drop_zero, hgs, Option.bind_some, if_pos rfl]
    rfl
  · have hs' : shp x 0 = false := by simpa using hs
    rw [if_neg hs]
    show (if (1 : Int) = 0 then _ else (if true = true then (if (⟨#[]⟩ : ByteArray).toList = ([] : List UInt8) then ((wire_Valid.f (k + 1) x.f0 x.f1 x.f2 x.f3).bind fun t376 => (some (!t376))) else (some false)) else (some false))) = some true
    rw [if_neg (by omega), if_pos rfl, if_pos (by rw [ba_toList]), hv, hs', Option.bind_some]
    rfl
theorem WireBack (x : S44) (rest : ByteArray) (cut : Int) (hx : isz x ≤ 4000000) : ∃ k, legatelaw01_WireBack.f k x.f0 x.f1 x.f2 x.f3 rest cut = some true := by
  refine ⟨9000000 + 1 + 1, ?_⟩
  generalize hk : 9000000 = k
  unfold legatelaw01_WireBack.f
  rw [works01 _ (by omega), Option.bind_some, if_pos rfl, large_some x (by omega) _ (by omega), Option.bind_some]
  by_cases h1 : 2000 < isz x
  · rw [decide_eq_true h1, if_pos rfl]; exact back_out (k + 1) x rest cut
  · rw [decide_eq_false h1, if_neg (by simp)]
    by_cases h2 : (rest.size : Int) > 2000
    · rw [decide_eq_true h2]; exact back_out (k + 1) x rest cut
    · rw [decide_eq_false h2]; exact back_in k (by omega) x rest cut (by omega) (by omega)

end Go.Proofs.Ytkgijkfcmbpgpaa.Pure
end
