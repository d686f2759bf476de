/- ShaOn: a text whose first part is whole blocks goes on from the state behind that. -/
import Derived.Test.YtkgijkfcmbpgpaaDoorMSha2
import Derived.Test.YtkgijkfcmbpgpaaDoorMWorks02
import Derived.Test.YtkgijkfcmbpgpaaDoorPAllx9on
namespace Go.Proofs.YtkgijkfcmbpgpaaDoor.Pure
open Go.RowKit Go.Proofs.YtkgijkfcmbpgpaaDoor.PAll Go.Proofs.YtkgijkfcmbpgpaaDoorW.PrintWords Go.Proofs.YtkgijkfcmbpgpaaDoorW.PrintLast
open Go.Proofs.YtkgijkfcmbpgpaaDoor.Giv

theorem on_l1 (a b t : ByteArray) (n : Nat) (hl : (a ++ b).size ≤ 5000) (hb : b.size ≤ 5000) (ht : t = (a ++ b) ++ padB (a ++ b).size) (hn : t.size = 64 * n) (hh : t.size ≤ 6000) : ∀ (d m k : Nat), m + d = n → d < k →
    legatelaw02_ShaOn.l1 k a b true (stB (stTo t m)) t ((64 * m : Nat) : Int) = some true := by
  have hq : (a ++ b).size = a.size + b.size := ByteArray.size_append
  intro d
  induction d with
  | zero =>
    intro m k hm hk
    obtain ⟨k, rfl⟩ : ∃ j, k = j + 1 := ⟨k - 1, by omega⟩
    obtain rfl : m = n := by omega
    simp only [legatelaw02_ShaOn.l1]
    have e : wrap64 (((64 * m : Nat) : Int) + 64) = ((64 * m + 64 : Nat) : Int) := by unfold wrap64; omega
    have hb2 := padB_size b.size
    have hb3 := padB_mod b.size
    have hbz := padZ_lt ((b.size : Int) + 1)
    have hbq : (b ++ padB b.size).size = b.size + (padB b.size).size := ByteArray.size_append
    rw [e, if_neg (by omega), if_pos trivial, if_pos (by omega), if_pos (by omega), sum_st (a ++ b) m (by omega) (by rw [← ht]; exact hn), ← ht]
    simp only [Option.bind_some]
    rw [if_pos trivial, sum_st b ((b ++ padB b.size).size / 64) (by omega) (by omega)]
    simp only [Option.bind_some]
    rw [stB_size (stTo_inR _ _).1]
    rfl
  | succ d ih =>
    intro m k hm hk
    obtain ⟨k, rfl⟩ : ∃ j, k = j + 1 := ⟨k - 1, by omega⟩
    simp only [legatelaw02_ShaOn.l1]
    have e : wrap64 (((64 * m : Nat) : Int) + 64) = ((64 * m + 64 : Nat) : Int) := by unfold wrap64; omega
    rw [e, if_pos (by omega), if_pos (by omega), if_pos (by omega), Int.toNat_natCast, Int.toNat_natCast, block_stTo _ m (by omega)]
    simp only [Option.bind_some]
    have := ih (m + 1) k (by omega) (by omega)
    rwa [show 64 * (m + 1) = 64 * m + 64 from by omega] at this

theorem on_l0 (a b t : ByteArray) (q n : Nat) (hl : (a ++ b).size ≤ 5000) (hb : b.size ≤ 5000) (ht : t = (a ++ b) ++ padB (a ++ b).size) (hn : t.size = 64 * n) (hh : t.size ≤ 6000) (hqn : a.size = 64 * q)
    (hx : ∀ j, j < q → a.extract (64 * j) (64 * j + 64) = t.extract (64 * j) (64 * j + 64)) : ∀ (d m k : Nat), m + d = q → d + n + 1 < k →
    legatelaw02_ShaOn.l0 k a b true (stB (stTo t m)) t ((64 * m : Nat) : Int) = some true := by
  have hq : (a ++ b).size = a.size + b.size := ByteArray.size_append
  have hqt : t.size = (a ++ b).size + (padB (a ++ b).size).size := by rw [ht]; exact ByteArray.size_append
  intro d
  induction d with
  | zero =>
    intro m k hm hk
    obtain ⟨k, rfl⟩ : ∃ j, k = j + 1 := ⟨k - 1, by omega⟩
    obtain rfl : m = q := by omega
    simp only [legatelaw02_ShaOn.l0]
    rw [if_neg (by omega), hqn]
    exact on_l1 a b t n hl hb ht hn hh (n - m) m k (by omega) (by omega)
  | succ d ih =>
    intro m k hm hk
    obtain ⟨k, rfl⟩ : ∃ j, k = j + 1 := ⟨k - 1, by omega⟩
    simp only [legatelaw02_ShaOn.l0]
    have e : wrap64 (((64 * m : Nat) : Int) + 64) = ((64 * m + 64 : Nat) : Int) := by unfold wrap64; omega
    rw [e, if_pos (by omega), if_pos (by omega), if_pos (by omega), if_pos (by omega), Int.toNat_natCast, Int.toNat_natCast, hx m (by omega), block_stTo _ m (by omega)]
    simp only [Option.bind_some]
    have := ih (m + 1) k (by omega) (by omega)
    rwa [show 64 * (m + 1) = 64 * m + 64 from by omega] at this

theorem on_out (k : Nat) (a b : ByteArray) : legatelaw02_ShaOn.j0 (k + 1) a b true true = some true := by
  simp only [legatelaw02_ShaOn.j0, if_true]
theorem on_in (k : Nat) (hk : 200 ≤ k) (a b : ByteArray) (ha : a.size ≤ 1000) (hb : b.size ≤ 1000) (hm : a.size % 64 = 0) : legatelaw02_ShaOn.j0 (k + 1) a b true false = some true := by
  simp only [legatelaw02_ShaOn.j0]
  have hq : (a ++ b).size = a.size + b.size := ByteArray.size_append
  have ew : wrap64 ((a.size : Int) + (b.size : Int)) = ((a ++ b).size : Int) := by unfold wrap64; omega
  have hp := padB_size (a ++ b).size
  have hpm := padB_mod (a ++ b).size
  have hz := padZ_lt (((a ++ b).size : Int) + 1)
  have hqt : ((a ++ b) ++ padB (a ++ b).size).size = (a ++ b).size + (padB (a ++ b).size).size := ByteArray.size_append
  rw [if_neg (by simp), start_st]
  simp only [Option.bind_some]
  rw [if_pos (by omega), ew, pad_ge k (by omega) _ (by omega)]
  simp only [Option.bind_some]
  rw [if_pos (by omega)]
  refine on_l0 a b _ (a.size / 64) (((a ++ b) ++ padB (a ++ b).size).size / 64) (by omega) (by omega) rfl (by omega) (by omega) (by omega) ?_ (a.size / 64) 0 k (by omega) (by omega)
  intro j hj
  rw [ByteArray.append_assoc, ByteArray.extract_append]
  have : (b ++ padB (a ++ b).size).extract (64 * j - a.size) (64 * j + 64 - a.size) = ByteArray.empty := by
    apply ByteArray.ext
    rw [ByteArray.data_extract]
    apply Array.eq_empty_of_size_eq_zero
    simp
    omega
  rw [this]
  simp

theorem ShaOn : legatelaw02_ShaOn.Pure := by
  intro a b _ _
  refine ⟨1000, ?_⟩
  unfold legatelaw02_ShaOn.f
  rw [works02]
  simp only [Option.bind_some, if_true]
  by_cases h1 : (a.size : Int) > 1000
  · rw [if_pos h1]; exact on_out 999 a b
  rw [if_neg h1]
  by_cases h2 : (b.size : Int) > 1000
  · rw [if_pos h2]; exact on_out 999 a b
  rw [if_neg h2]
  by_cases h3 : (a.size : Int) % 64 = 0
  · rw [h3]; exact on_in 999 (by omega) a b (by omega) (by omega) (by omega)
  · have : (((a.size : Int) % 64) != 0) = true := by simpa using h3
    rw [this]; exact on_out 999 a b
end Go.Proofs.YtkgijkfcmbpgpaaDoor.Pure
