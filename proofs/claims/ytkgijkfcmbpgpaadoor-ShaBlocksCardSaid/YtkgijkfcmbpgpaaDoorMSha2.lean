/- States behind blocks, as the statements walk them: from text to text. -/
import Derived.Test.YtkgijkfcmbpgpaaDoorMSha
namespace Go.Proofs.YtkgijkfcmbpgpaaDoor.Giv
open Go.RowKit Go.Proofs.YtkgijkfcmbpgpaaDoorW.PrintWords Go.Proofs.YtkgijkfcmbpgpaaDoorW.PrintLast Go.Proofs.YtkgijkfcmbpgpaaDoorW.PrintMore Go.Proofs.YtkgijkfcmbpgpaaDoor.PSub

theorem mod_w32 (x : Int) : W32 (x % 4294967296) := by unfold W32; omega
theorem addTo_eq (R v : List Int) (hR : R.length = 8) : ∃ a b c d e f g h : Int,
    addTo R v 8 = [a % 4294967296, b % 4294967296, c % 4294967296, d % 4294967296, e % 4294967296, f % 4294967296, g % 4294967296, h % 4294967296] := by
  obtain ⟨a, b, c, d, e, f, g, i, rfl⟩ := list8 hR
  exact ⟨a + v.getD 0 0, b + v.getD 1 0, c + v.getD 2 0, d + v.getD 3 0, e + v.getD 4 0, f + v.getD 5 0, g + v.getD 6 0, i + v.getD 7 0, by simp [addTo]⟩
theorem behindL_inR (s : ByteArray) (v : List Int) (hv : v.length = 8) : InR (behindL s v) := by
  refine ⟨behindL_len s v hv, ?_⟩
  unfold behindL
  obtain ⟨a, b, c, d, e, f, g, h, e1⟩ := addTo_eq (rounds s v 64) v (rounds_len s v hv 64)
  rw [e1]
  intro x hx
  simp only [List.mem_cons, List.not_mem_nil, or_false] at hx
  rcases hx with rfl | rfl | rfl | rfl | rfl | rfl | rfl | rfl <;> exact mod_w32 _
theorem firstL_inR : InR firstL := by
  refine ⟨rfl, ?_⟩
  intro x hx
  simp only [firstL, List.mem_cons, List.not_mem_nil, or_false] at hx
  rcases hx with rfl | rfl | rfl | rfl | rfl | rfl | rfl | rfl <;> exact ⟨by decide, by decide⟩
theorem stTo_inR (t : ByteArray) : ∀ k, InR (stTo t k)
  | 0 => firstL_inR
  | k + 1 => behindL_inR _ _ (stTo_inR t k).1
theorem start_st : sha_Start.f = some (stB firstL) := rfl
theorem block_st (v : List Int) (b : ByteArray) (h : InR v) (hb : b.size = 64) : sha_Block.f (stB v) b = some (stB (behindL b v)) := by
  unfold sha_Block.f
  rw [if_pos ⟨stB_size h.1, hb⟩]
  unfold blockB
  rw [read_stB h]
  rfl
theorem block_stTo (t : ByteArray) (k : Nat) (h : 64 * k + 64 ≤ t.size) : sha_Block.f (stB (stTo t k)) (t.extract (64 * k) (64 * k + 64)) = some (stB (stTo t (k + 1))) := by
  rw [block_st _ _ (stTo_inR t k) (by simp; omega)]
  rfl
theorem stTo_congr (t u : ByteArray) : ∀ (k : Nat), (∀ j, j < k → t.extract (64 * j) (64 * j + 64) = u.extract (64 * j) (64 * j + 64)) → stTo t k = stTo u k
  | 0, _ => rfl
  | k + 1, h => by rw [stTo_succ, stTo_succ, h k (by omega), stTo_congr t u k fun j hj => h j (by omega)]
theorem sumB_st (s : ByteArray) (n : Nat) (h : (s ++ padB s.size).size = 64 * n) : sumB s = stB (stTo (s ++ padB s.size) n) := by
  unfold sumB
  rw [h, show 64 * n / 64 = n from by omega]
  rfl
theorem sum_st (s : ByteArray) (n : Nat) (hs : s.size ≤ 100000000) (h : (s ++ padB s.size).size = 64 * n) : sha_Sum.f s = some (stB (stTo (s ++ padB s.size) n)) := by
  unfold sha_Sum.f
  rw [if_pos hs, sumB_st s n h]
theorem beq_refl_list (l : List UInt8) : (l == l) = true := by simp
end Go.Proofs.YtkgijkfcmbpgpaaDoor.Giv
