import Derived.Test.YtkgijkfcmbpgpaaDoorGSha4
namespace Go.Proofs.YtkgijkfcmbpgpaaDoor.Giv
open Go.RowKit Go.Proofs.YtkgijkfcmbpgpaaDoorW.PrintWords Go.Proofs.YtkgijkfcmbpgpaaDoorW.PrintLast Go.Proofs.YtkgijkfcmbpgpaaDoorW.PrintMore Go.Proofs.YtkgijkfcmbpgpaaDoor
set_option linter.unusedVariables false
set_option linter.unusedSimpArgs false

/-- One byte of the length in bits. -/
def lenB (n : Int) (j : Nat) : Int := (shr .u64 (IntKind.u64.wrap ((IntKind.u64.wrap (n)) * 8)) ((8 * j : Nat) : Int)) % 256
def lenL (n : Int) : List Int := [lenB n 7, lenB n 6, lenB n 5, lenB n 4, lenB n 3, lenB n 2, lenB n 1, lenB n 0]
def padZ (m : Int) : Nat := ((-(m + 8)) % 64).toNat
def padL (n : Int) : List Int := 128 :: List.replicate (padZ (n + 1)) 0 ++ lenL n
def padB (n : Int) : ByteArray := strOfNums (padL n)

theorem pad_cond (m : Int) (l : Nat) : (Int.tmod (wrap64 ((wrap64 (m + (l : Int))) + 8)) 64) = 0 ↔ (m + l + 8) % 64 = 0 := by
  constructor
  · intro h
    have h2 := Int.dvd_of_tmod_eq_zero h
    unfold wrap64 at h2
    omega
  · intro h
    apply Int.tmod_eq_zero_of_dvd
    unfold wrap64
    omega

theorem pad_step (k : Nat) (n : Int) (x : List Int) (j : Nat) (hj : j < 8) (hx : x.length < 140737488355328) :
    PAll.sha_Pad.l1 (k + 1) n x (j : Int) = PAll.sha_Pad.l1 k n (x ++ [lenB n j]) ((j : Int) - 1) := by
  simp only [PAll.sha_Pad.l1]
  have e : wrap64 (8 * (j : Int)) = ((8 * j : Nat) : Int) := by unfold wrap64; omega
  have e2 : wrap64 ((j : Int) - 1) = (j : Int) - 1 := by unfold wrap64; omega
  rw [if_pos (by omega), e, if_pos (by omega), if_pos hx, e2]
  rfl
theorem pad_end (k : Nat) (n : Int) (x : List Int) : PAll.sha_Pad.l1 (k + 1) n x (-1) = some (strOfNums x) := by
  simp only [PAll.sha_Pad.l1]
  rw [if_neg (by omega)]
theorem pad_l1 (k : Nat) (n : Int) (x : List Int) (hx : x.length < 1000000) : PAll.sha_Pad.l1 (k + 9) n x 7 = some (strOfNums (x ++ lenL n)) := by
  have s7 := pad_step (k + 8) n x 7 (by omega) (by omega)
  have s6 := pad_step (k + 7) n (x ++ [lenB n 7]) 6 (by omega) (by simp; omega)
  have s5 := pad_step (k + 6) n (x ++ [lenB n 7] ++ [lenB n 6]) 5 (by omega) (by simp; omega)
  have s4 := pad_step (k + 5) n (x ++ [lenB n 7] ++ [lenB n 6] ++ [lenB n 5]) 4 (by omega) (by simp; omega)
  have s3 := pad_step (k + 4) n (x ++ [lenB n 7] ++ [lenB n 6] ++ [lenB n 5] ++ [lenB n 4]) 3 (by omega) (by simp; omega)
  have s2 := pad_step (k + 3) n (x ++ [lenB n 7] ++ [lenB n 6] ++ [lenB n 5] ++ [lenB n 4] ++ [lenB n 3]) 2 (by omega) (by simp; omega)
  have s1 := pad_step (k + 2) n (x ++ [lenB n 7] ++ [lenB n 6] ++ [lenB n 5] ++ [lenB n 4] ++ [lenB n 3] ++ [lenB n 2]) 1 (by omega) (by simp; omega)
  have s0 := pad_step (k + 1) n (x ++ [lenB n 7] ++ [lenB n 6] ++ [lenB n 5] ++ [lenB n 4] ++ [lenB n 3] ++ [lenB n 2] ++ [lenB n 1]) 0 (by omega) (by simp; omega)
  have se := pad_end k n (x ++ [lenB n 7] ++ [lenB n 6] ++ [lenB n 5] ++ [lenB n 4] ++ [lenB n 3] ++ [lenB n 2] ++ [lenB n 1] ++ [lenB n 0])
  refine (s7.trans (s6.trans (s5.trans (s4.trans (s3.trans (s2.trans (s1.trans (s0.trans se)))))))).trans ?_
  simp [lenL]
theorem l0_succ (K : Nat) (n : Int) (x : List Int) : PAll.sha_Pad.l0 (K + 1) n x = if (Int.tmod (wrap64 ((wrap64 (n + (x.length : Int))) + 8)) 64) = 0 then (PAll.sha_Pad.l1 K n x 7) else (if x.length < 140737488355328 then (PAll.sha_Pad.l0 K n (x ++ [0])) else (none)) := by
  simp only [PAll.sha_Pad.l0]
theorem pad_l0 (n : Int) : ∀ (z k : Nat) (x : List Int), x.length + z < 1000 → padZ (n + x.length) = z → PAll.sha_Pad.l0 (k + z + 10) n x = some (strOfNums (x ++ List.replicate z 0 ++ lenL n)) := by
  intro z
  induction z with
  | zero =>
    intro k x hx hz
    rw [show k + 0 + 10 = (k + 9) + 1 from by omega, l0_succ, if_pos ((pad_cond n x.length).2 (by unfold padZ at hz; omega)), pad_l1 k n x (by omega)]
    simp
  | succ z ih =>
    intro k x hx hz
    rw [show k + (z + 1) + 10 = (k + z + 10) + 1 from by omega, l0_succ]
    have hne : ¬ (Int.tmod (wrap64 ((wrap64 (n + (x.length : Int))) + 8)) 64) = 0 := by
      rw [pad_cond]; unfold padZ at hz; omega
    rw [if_neg hne, if_pos (by omega)]
    have := ih k (x ++ [0]) (by simp; omega) (by unfold padZ at hz ⊢; simp; omega)
    rw [this]
    simp [List.replicate_succ]
theorem padZ_lt (m : Int) : padZ m < 64 := by unfold padZ; omega
theorem pad_some (n : Int) (h : 0 ≤ n) : PAll.sha_Pad.f 100 n = some (padB n) := by
  unfold PAll.sha_Pad.f
  rw [if_neg (by omega)]
  have hz := padZ_lt (n + 1)
  have := pad_l0 n (padZ (n + 1)) (90 - padZ (n + 1)) [128] (by simp; omega) rfl
  rw [show 90 - padZ (n + 1) + padZ (n + 1) + 10 = 100 from by omega] at this
  rw [this]
  rfl
theorem pad_neg (k : Nat) (n : Int) (h : n < 0) : PAll.sha_Pad.f k n = some ⟨#[]⟩ := by
  unfold PAll.sha_Pad.f
  rw [if_pos h]
theorem size_strOfNums (l : List Int) : (strOfNums l).size = l.length := by simp [strOfNums, ByteArray.size]
theorem padB_size (n : Int) : (padB n).size = padZ (n + 1) + 9 := by
  unfold padB; rw [size_strOfNums]; simp [padL, lenL]
theorem padB_mod (n : Int) : (n + (padB n).size) % 64 = 0 := by rw [padB_size]; unfold padZ; omega

/-- The sum of a text. -/
def sumB (s : ByteArray) : ByteArray := strOfNums (textTo (stTo (s ++ padB s.size) ((s ++ padB s.size).size / 64)) 8)
def sha_Sum.f (a0 : ByteArray) : Option ByteArray := if a0.size ≤ 100000000 then some (sumB a0) else none
theorem sha_Sum.calls (a0 : ByteArray) (r : ByteArray) (w : World) {gw : GW w} (h : sha_Sum.f a0 = some r) :
    Calls Tryd.prog 20 #[.string a0] w fun e w' => e = .returned (.string r) ∧ Below w.heap.size w w' := by
  unfold sha_Sum.f at h
  by_cases h0 : a0.size ≤ 100000000
  · rw [if_pos h0] at h
    obtain rfl := Option.some.inj h
    have hs := padB_size a0.size
    have hm := padB_mod a0.size
    have hl := padZ_lt ((a0.size : Int) + 1)
    exact sum_walk a0 (padB a0.size) 100 _ (pad_some _ (by omega)) (by simp; omega) (by simp; omega) w gw
  · rw [if_neg h0] at h
    cases h
end Go.Proofs.YtkgijkfcmbpgpaaDoor.Giv
