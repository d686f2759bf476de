/- The reference's constants, reckoned by the kernel: the roots are the program's tables. -/
import Derived.Test.YtkgijkfcmbpgpaaDoorPAllx4
import Derived.Test.YtkgijkfcmbpgpaaDoorMSha
import Derived.KernelRfl
namespace Go.Proofs.YtkgijkfcmbpgpaaDoor.Giv
open Go Go.RowKit Go.Proofs.YtkgijkfcmbpgpaaDoor Go.Proofs.YtkgijkfcmbpgpaaDoorW.PrintWords
def primL : List Int := [2, 3, 5, 7, 11, 13, 17, 19, 23, 29, 31, 37, 41, 43, 47, 53, 59, 61, 67, 71, 73, 79, 83, 89, 97, 101, 103, 107, 109, 113, 127, 131, 137, 139, 149, 151, 157, 163, 167, 173, 179, 181, 191, 193, 197, 199, 211, 223, 227, 229, 233, 239, 241, 251, 257, 263, 269, 271, 277, 281, 283, 293, 307, 311]
theorem prim_0 : PAll.legateref02_prime.f 5000 0 = some 2 := by kernel_rfl
theorem prim_1 : PAll.legateref02_prime.f 5000 1 = some 3 := by kernel_rfl
theorem prim_2 : PAll.legateref02_prime.f 5000 2 = some 5 := by kernel_rfl
theorem prim_3 : PAll.legateref02_prime.f 5000 3 = some 7 := by kernel_rfl
theorem prim_4 : PAll.legateref02_prime.f 5000 4 = some 11 := by kernel_rfl
theorem prim_5 : PAll.legateref02_prime.f 5000 5 = some 13 := by kernel_rfl
theorem prim_6 : PAll.legateref02_prime.f 5000 6 = some 17 := by kernel_rfl
theorem prim_7 : PAll.legateref02_prime.f 5000 7 = some 19 := by kernel_rfl
theorem prim_8 : PAll.legateref02_prime.f 5000 8 = some 23 := by kernel_rfl
theorem prim_9 : PAll.legateref02_prime.f 5000 9 = some 29 := by kernel_rfl
theorem prim_10 : PAll.legateref02_prime.f 5000 10 = some 31 := by kernel_rfl
theorem prim_11 : PAll.legateref02_prime.f 5000 11 = some 37 := by kernel_rfl
theorem prim_12 : PAll.legateref02_prime.f 5000 12 = some 41 := by kernel_rfl
theorem prim_13 : PAll.legateref02_prime.f 5000 13 = some 43 := by kernel_rfl
theorem prim_14 : PAll.legateref02_prime.f 5000 14 = some 47 := by kernel_rfl
theorem prim_15 : PAll.legateref02_prime.f 5000 15 = some 53 := by kernel_rfl
theorem prim_16 : PAll.legateref02_prime.f 5000 16 = some 59 := by kernel_rfl
theorem prim_17 : PAll.legateref02_prime.f 5000 17 = some 61 := by kernel_rfl
theorem prim_18 : PAll.legateref02_prime.f 5000 18 = some 67 := by kernel_rfl
theorem prim_19 : PAll.legateref02_prime.f 5000 19 = some 71 := by kernel_rfl
theorem prim_20 : PAll.legateref02_prime.f 5000 20 = some 73 := by kernel_rfl
theorem prim_21 : PAll.legateref02_prime.f 5000 21 = some 79 := by kernel_rfl
theorem prim_22 : PAll.legateref02_prime.f 5000 22 = some 83 := by kernel_rfl
theorem prim_23 : PAll.legateref02_prime.f 5000 23 = some 89 := by kernel_rfl
theorem prim_24 : PAll.legateref02_prime.f 5000 24 = some 97 := by kernel_rfl
theorem prim_25 : PAll.legateref02_prime.f 5000 25 = some 101 := by kernel_rfl
theorem prim_26 : PAll.legateref02_prime.f 5000 26 = some 103 := by kernel_rfl
theorem prim_27 : PAll.legateref02_prime.f 5000 27 = some 107 := by kernel_rfl
theorem prim_28 : PAll.legateref02_prime.f 5000 28 = some 109 := by kernel_rfl
theorem prim_29 : PAll.legateref02_prime.f 5000 29 = some 113 := by kernel_rfl
theorem prim_30 : PAll.legateref02_prime.f 5000 30 = some 127 := by kernel_rfl
theorem prim_31 : PAll.legateref02_prime.f 5000 31 = some 131 := by kernel_rfl
theorem prim_32 : PAll.legateref02_prime.f 5000 32 = some 137 := by kernel_rfl
theorem prim_33 : PAll.legateref02_prime.f 5000 33 = some 139 := by kernel_rfl
theorem prim_34 : PAll.legateref02_prime.f 5000 34 = some 149 := by kernel_rfl
theorem prim_35 : PAll.legateref02_prime.f 5000 35 = some 151 := by kernel_rfl
theorem prim_36 : PAll.legateref02_prime.f 5000 36 = some 157 := by kernel_rfl
theorem prim_37 : PAll.legateref02_prime.f 5000 37 = some 163 := by kernel_rfl
theorem prim_38 : PAll.legateref02_prime.f 5000 38 = some 167 := by kernel_rfl
theorem prim_39 : PAll.legateref02_prime.f 5000 39 = some 173 := by kernel_rfl
theorem prim_40 : PAll.legateref02_prime.f 5000 40 = some 179 := by kernel_rfl
theorem prim_41 : PAll.legateref02_prime.f 5000 41 = some 181 := by kernel_rfl
theorem prim_42 : PAll.legateref02_prime.f 5000 42 = some 191 := by kernel_rfl
theorem prim_43 : PAll.legateref02_prime.f 5000 43 = some 193 := by kernel_rfl
theorem prim_44 : PAll.legateref02_prime.f 5000 44 = some 197 := by kernel_rfl
theorem prim_45 : PAll.legateref02_prime.f 5000 45 = some 199 := by kernel_rfl
theorem prim_46 : PAll.legateref02_prime.f 5000 46 = some 211 := by kernel_rfl
theorem prim_47 : PAll.legateref02_prime.f 5000 47 = some 223 := by kernel_rfl
theorem prim_48 : PAll.legateref02_prime.f 5000 48 = some 227 := by kernel_rfl
theorem prim_49 : PAll.legateref02_prime.f 5000 49 = some 229 := by kernel_rfl
theorem prim_50 : PAll.legateref02_prime.f 5000 50 = some 233 := by kernel_rfl
theorem prim_51 : PAll.legateref02_prime.f 5000 51 = some 239 := by kernel_rfl
theorem prim_52 : PAll.legateref02_prime.f 5000 52 = some 241 := by kernel_rfl
theorem prim_53 : PAll.legateref02_prime.f 5000 53 = some 251 := by kernel_rfl
theorem prim_54 : PAll.legateref02_prime.f 5000 54 = some 257 := by kernel_rfl
theorem prim_55 : PAll.legateref02_prime.f 5000 55 = some 263 := by kernel_rfl
theorem prim_56 : PAll.legateref02_prime.f 5000 56 = some 269 := by kernel_rfl
theorem prim_57 : PAll.legateref02_prime.f 5000 57 = some 271 := by kernel_rfl
theorem prim_58 : PAll.legateref02_prime.f 5000 58 = some 277 := by kernel_rfl
theorem prim_59 : PAll.legateref02_prime.f 5000 59 = some 281 := by kernel_rfl
theorem prim_60 : PAll.legateref02_prime.f 5000 60 = some 283 := by kernel_rfl
theorem prim_61 : PAll.legateref02_prime.f 5000 61 = some 293 := by kernel_rfl
theorem prim_62 : PAll.legateref02_prime.f 5000 62 = some 307 := by kernel_rfl
theorem prim_63 : PAll.legateref02_prime.f 5000 63 = some 311 := by kernel_rfl
theorem cube_0 : PAll.legateref02_root.f 200 2 true = some 1116352408 := by kernel_rfl
theorem cube_1 : PAll.legateref02_root.f 200 3 true = some 1899447441 := by kernel_rfl
theorem cube_2 : PAll.legateref02_root.f 200 5 true = some 3049323471 := by kernel_rfl
theorem cube_3 : PAll.legateref02_root.f 200 7 true = some 3921009573 := by kernel_rfl
theorem cube_4 : PAll.legateref02_root.f 200 11 true = some 961987163 := by kernel_rfl
theorem cube_5 : PAll.legateref02_root.f 200 13 true = some 1508970993 := by kernel_rfl
theorem cube_6 : PAll.legateref02_root.f 200 17 true = some 2453635748 := by kernel_rfl
theorem cube_7 : PAll.legateref02_root.f 200 19 true = some 2870763221 := by kernel_rfl
theorem cube_8 : PAll.legateref02_root.f 200 23 true = some 3624381080 := by kernel_rfl
theorem cube_9 : PAll.legateref02_root.f 200 29 true = some 310598401 := by kernel_rfl
theorem cube_10 : PAll.legateref02_root.f 200 31 true = some 607225278 := by kernel_rfl
theorem cube_11 : PAll.legateref02_root.f 200 37 true = some 1426881987 := by kernel_rfl
theorem cube_12 : PAll.legateref02_root.f 200 41 true = some 1925078388 := by kernel_rfl
theorem cube_13 : PAll.legateref02_root.f 200 43 true = some 2162078206 := by kernel_rfl
theorem cube_14 : PAll.legateref02_root.f 200 47 true = some 2614888103 := by kernel_rfl
theorem cube_15 : PAll.legateref02_root.f 200 53 true = some 3248222580 := by kernel_rfl
theorem cube_16 : PAll.legateref02_root.f 200 59 true = some 3835390401 := by kernel_rfl
theorem cube_17 : PAll.legateref02_root.f 200 61 true = some 4022224774 := by kernel_rfl
theorem cube_18 : PAll.legateref02_root.f 200 67 true = some 264347078 := by kernel_rfl
theorem cube_19 : PAll.legateref02_root.f 200 71 true = some 604807628 := by kernel_rfl
theorem cube_20 : PAll.legateref02_root.f 200 73 true = some 770255983 := by kernel_rfl
theorem cube_21 : PAll.legateref02_root.f 200 79 true = some 1249150122 := by kernel_rfl
theorem cube_22 : PAll.legateref02_root.f 200 83 true = some 1555081692 := by kernel_rfl
theorem cube_23 : PAll.legateref02_root.f 200 89 true = some 1996064986 := by kernel_rfl
theorem cube_24 : PAll.legateref02_root.f 200 97 true = some 2554220882 := by kernel_rfl
theorem cube_25 : PAll.legateref02_root.f 200 101 true = some 2821834349 := by kernel_rfl
theorem cube_26 : PAll.legateref02_root.f 200 103 true = some 2952996808 := by kernel_rfl
theorem cube_27 : PAll.legateref02_root.f 200 107 true = some 3210313671 := by kernel_rfl
theorem cube_28 : PAll.legateref02_root.f 200 109 true = some 3336571891 := by kernel_rfl
theorem cube_29 : PAll.legateref02_root.f 200 113 true = some 3584528711 := by kernel_rfl
theorem cube_30 : PAll.legateref02_root.f 200 127 true = some 113926993 := by kernel_rfl
theorem cube_31 : PAll.legateref02_root.f 200 131 true = some 338241895 := by kernel_rfl
theorem cube_32 : PAll.legateref02_root.f 200 137 true = some 666307205 := by kernel_rfl
theorem cube_33 : PAll.legateref02_root.f 200 139 true = some 773529912 := by kernel_rfl
theorem cube_34 : PAll.legateref02_root.f 200 149 true = some 1294757372 := by kernel_rfl
theorem cube_35 : PAll.legateref02_root.f 200 151 true = some 1396182291 := by kernel_rfl
theorem cube_36 : PAll.legateref02_root.f 200 157 true = some 1695183700 := by kernel_rfl
theorem cube_37 : PAll.legateref02_root.f 200 163 true = some 1986661051 := by kernel_rfl
theorem cube_38 : PAll.legateref02_root.f 200 167 true = some 2177026350 := by kernel_rfl
theorem cube_39 : PAll.legateref02_root.f 200 173 true = some 2456956037 := by kernel_rfl
theorem cube_40 : PAll.legateref02_root.f 200 179 true = some 2730485921 := by kernel_rfl
theorem cube_41 : PAll.legateref02_root.f 200 181 true = some 2820302411 := by kernel_rfl
theorem cube_42 : PAll.legateref02_root.f 200 191 true = some 3259730800 := by kernel_rfl
theorem cube_43 : PAll.legateref02_root.f 200 193 true = some 3345764771 := by kernel_rfl
theorem cube_44 : PAll.legateref02_root.f 200 197 true = some 3516065817 := by kernel_rfl
theorem cube_45 : PAll.legateref02_root.f 200 199 true = some 3600352804 := by kernel_rfl
theorem cube_46 : PAll.legateref02_root.f 200 211 true = some 4094571909 := by kernel_rfl
theorem cube_47 : PAll.legateref02_root.f 200 223 true = some 275423344 := by kernel_rfl
theorem cube_48 : PAll.legateref02_root.f 200 227 true = some 430227734 := by kernel_rfl
theorem cube_49 : PAll.legateref02_root.f 200 229 true = some 506948616 := by kernel_rfl
theorem cube_50 : PAll.legateref02_root.f 200 233 true = some 659060556 := by kernel_rfl
theorem cube_51 : PAll.legateref02_root.f 200 239 true = some 883997877 := by kernel_rfl
theorem cube_52 : PAll.legateref02_root.f 200 241 true = some 958139571 := by kernel_rfl
theorem cube_53 : PAll.legateref02_root.f 200 251 true = some 1322822218 := by kernel_rfl
theorem cube_54 : PAll.legateref02_root.f 200 257 true = some 1537002063 := by kernel_rfl
theorem cube_55 : PAll.legateref02_root.f 200 263 true = some 1747873779 := by kernel_rfl
theorem cube_56 : PAll.legateref02_root.f 200 269 true = some 1955562222 := by kernel_rfl
theorem cube_57 : PAll.legateref02_root.f 200 271 true = some 2024104815 := by kernel_rfl
theorem cube_58 : PAll.legateref02_root.f 200 277 true = some 2227730452 := by kernel_rfl
theorem cube_59 : PAll.legateref02_root.f 200 281 true = some 2361852424 := by kernel_rfl
theorem cube_60 : PAll.legateref02_root.f 200 283 true = some 2428436474 := by kernel_rfl
theorem cube_61 : PAll.legateref02_root.f 200 293 true = some 2756734187 := by kernel_rfl
theorem cube_62 : PAll.legateref02_root.f 200 307 true = some 3204031479 := by kernel_rfl
theorem cube_63 : PAll.legateref02_root.f 200 311 true = some 3329325298 := by kernel_rfl
theorem square_0 : PAll.legateref02_root.f 200 2 false = some 1779033703 := by kernel_rfl
theorem square_1 : PAll.legateref02_root.f 200 3 false = some 3144134277 := by kernel_rfl
theorem square_2 : PAll.legateref02_root.f 200 5 false = some 1013904242 := by kernel_rfl
theorem square_3 : PAll.legateref02_root.f 200 7 false = some 2773480762 := by kernel_rfl
theorem square_4 : PAll.legateref02_root.f 200 11 false = some 1359893119 := by kernel_rfl
theorem square_5 : PAll.legateref02_root.f 200 13 false = some 2600822924 := by kernel_rfl
theorem square_6 : PAll.legateref02_root.f 200 17 false = some 528734635 := by kernel_rfl
theorem square_7 : PAll.legateref02_root.f 200 19 false = some 1541459225 := by kernel_rfl
theorem prim_at : ∀ i : Nat, i < 64 → PAll.legateref02_prime.f 5000 (i : Int) = some (primL.getD i 0)
  | 0, _ => prim_0
  | 1, _ => prim_1
  | 2, _ => prim_2
  | 3, _ => prim_3
  | 4, _ => prim_4
  | 5, _ => prim_5
  | 6, _ => prim_6
  | 7, _ => prim_7
  | 8, _ => prim_8
  | 9, _ => prim_9
  | 10, _ => prim_10
  | 11, _ => prim_11
  | 12, _ => prim_12
  | 13, _ => prim_13
  | 14, _ => prim_14
  | 15, _ => prim_15
  | 16, _ => prim_16
  | 17, _ => prim_17
  | 18, _ => prim_18
  | 19, _ => prim_19
  | 20, _ => prim_20
  | 21, _ => prim_21
  | 22, _ => prim_22
  | 23, _ => prim_23
  | 24, _ => prim_24
  | 25, _ => prim_25
  | 26, _ => prim_26
  | 27, _ => prim_27
  | 28, _ => prim_28
  | 29, _ => prim_29
  | 30, _ => prim_30
  | 31, _ => prim_31
  | 32, _ => prim_32
  | 33, _ => prim_33
  | 34, _ => prim_34
  | 35, _ => prim_35
  | 36, _ => prim_36
  | 37, _ => prim_37
  | 38, _ => prim_38
  | 39, _ => prim_39
  | 40, _ => prim_40
  | 41, _ => prim_41
  | 42, _ => prim_42
  | 43, _ => prim_43
  | 44, _ => prim_44
  | 45, _ => prim_45
  | 46, _ => prim_46
  | 47, _ => prim_47
  | 48, _ => prim_48
  | 49, _ => prim_49
  | 50, _ => prim_50
  | 51, _ => prim_51
  | 52, _ => prim_52
  | 53, _ => prim_53
  | 54, _ => prim_54
  | 55, _ => prim_55
  | 56, _ => prim_56
  | 57, _ => prim_57
  | 58, _ => prim_58
  | 59, _ => prim_59
  | 60, _ => prim_60
  | 61, _ => prim_61
  | 62, _ => prim_62
  | 63, _ => prim_63
  | n + 64, h => absurd h (by omega)
theorem cube_at : ∀ i : Nat, i < 64 → PAll.legateref02_root.f 200 (primL.getD i 0) true = some (keysL.getD i 0)
  | 0, _ => cube_0
  | 1, _ => cube_1
  | 2, _ => cube_2
  | 3, _ => cube_3
  | 4, _ => cube_4
  | 5, _ => cube_5
  | 6, _ => cube_6
  | 7, _ => cube_7
  | 8, _ => cube_8
  | 9, _ => cube_9
  | 10, _ => cube_10
  | 11, _ => cube_11
  | 12, _ => cube_12
  | 13, _ => cube_13
  | 14, _ => cube_14
  | 15, _ => cube_15
  | 16, _ => cube_16
  | 17, _ => cube_17
  | 18, _ => cube_18
  | 19, _ => cube_19
  | 20, _ => cube_20
  | 21, _ => cube_21
  | 22, _ => cube_22
  | 23, _ => cube_23
  | 24, _ => cube_24
  | 25, _ => cube_25
  | 26, _ => cube_26
  | 27, _ => cube_27
  | 28, _ => cube_28
  | 29, _ => cube_29
  | 30, _ => cube_30
  | 31, _ => cube_31
  | 32, _ => cube_32
  | 33, _ => cube_33
  | 34, _ => cube_34
  | 35, _ => cube_35
  | 36, _ => cube_36
  | 37, _ => cube_37
  | 38, _ => cube_38
  | 39, _ => cube_39
  | 40, _ => cube_40
  | 41, _ => cube_41
  | 42, _ => cube_42
  | 43, _ => cube_43
  | 44, _ => cube_44
  | 45, _ => cube_45
  | 46, _ => cube_46
  | 47, _ => cube_47
  | 48, _ => cube_48
  | 49, _ => cube_49
  | 50, _ => cube_50
  | 51, _ => cube_51
  | 52, _ => cube_52
  | 53, _ => cube_53
  | 54, _ => cube_54
  | 55, _ => cube_55
  | 56, _ => cube_56
  | 57, _ => cube_57
  | 58, _ => cube_58
  | 59, _ => cube_59
  | 60, _ => cube_60
  | 61, _ => cube_61
  | 62, _ => cube_62
  | 63, _ => cube_63
  | n + 64, h => absurd h (by omega)
theorem square_at : ∀ i : Nat, i < 8 → PAll.legateref02_root.f 200 (primL.getD i 0) false = some (firstL.getD i 0)
  | 0, _ => square_0
  | 1, _ => square_1
  | 2, _ => square_2
  | 3, _ => square_3
  | 4, _ => square_4
  | 5, _ => square_5
  | 6, _ => square_6
  | 7, _ => square_7
  | n + 8, h => absurd h (by omega)
theorem prim_ge (i : Nat) (h : i < 64) (n : Nat) : PAll.legateref02_prime.f (5000 + n) (i : Int) = some (primL.getD i 0) := by
  induction n with
  | zero => exact prim_at i h
  | succ n ih => exact PAll.legateref02_prime.mono _ _ _ ih
theorem cube_ge (i : Nat) (h : i < 64) (n : Nat) : PAll.legateref02_root.f (200 + n) (primL.getD i 0) true = some (keysL.getD i 0) := by
  induction n with
  | zero => exact cube_at i h
  | succ n ih => exact PAll.legateref02_root.mono _ _ _ _ ih
theorem square_ge (i : Nat) (h : i < 8) (n : Nat) : PAll.legateref02_root.f (200 + n) (primL.getD i 0) false = some (firstL.getD i 0) := by
  induction n with
  | zero => exact square_at i h
  | succ n ih => exact PAll.legateref02_root.mono _ _ _ _ ih
theorem keys_l0 : ∀ (n i k : Nat), i + n = 64 → 5000 + n < k → PAll.legateref02_Keys.l0 k (keysL.take i) (i : Int) = some keysL := by
  intro n
  induction n with
  | zero =>
    intro i k hi hk
    obtain ⟨k, rfl⟩ : ∃ j, k = j + 1 := ⟨k - 1, by omega⟩
    obtain rfl : i = 64 := by omega
    rw [PAll.legateref02_Keys.l0, if_neg (by omega)]
    rfl
  | succ n ih =>
    intro i k hi hk
    obtain ⟨k, rfl⟩ : ∃ j, k = j + 1 := ⟨k - 1, by omega⟩
    have e : wrap64 ((i : Int) + 1) = ((i + 1 : Nat) : Int) := by unfold wrap64; omega
    have e1 := prim_ge i (by omega) (k - 5000)
    rw [show 5000 + (k - 5000) = k from by omega] at e1
    have e2 := cube_ge i (by omega) (k - 200)
    rw [show 200 + (k - 200) = k from by omega] at e2
    have e3 : keysL.length = 64 := rfl
    rw [PAll.legateref02_Keys.l0, if_pos (by omega), e1]
    simp only [Option.bind_some]
    rw [e2]
    simp only [Option.bind_some]
    rw [if_pos (by rw [List.length_take]; omega), e]
    have e4 : keysL.take i ++ [keysL.getD i 0] = keysL.take (i + 1) := by
      rw [List.take_succ_eq_append_getElem (by omega)]
      simp [show i < keysL.length by omega]
    rw [e4]
    exact ih (i + 1) k (by omega) (by omega)
theorem keys_ref (k : Nat) (hk : 6000 ≤ k) : PAll.legateref02_Keys.f k = some keysL := keys_l0 64 0 k (by omega) (by omega)

end Go.Proofs.YtkgijkfcmbpgpaaDoor.Giv
