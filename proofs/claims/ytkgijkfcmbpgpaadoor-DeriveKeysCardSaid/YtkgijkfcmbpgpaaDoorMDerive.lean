/- Keys for one use alone: what they are, and the reference's: the same. -/
import Derived.Test.YtkgijkfcmbpgpaaDoorMRef
import Derived.Test.YtkgijkfcmbpgpaaDoorPAllx15
namespace Go.Proofs.YtkgijkfcmbpgpaaDoor.Giv
open Go.RowKit Go.Proofs.YtkgijkfcmbpgpaaDoorW.PrintWords Go.Proofs.YtkgijkfcmbpgpaaDoorW.PrintLast Go.Proofs.YtkgijkfcmbpgpaaDoorW.PrintMore Go.Proofs.YtkgijkfcmbpgpaaDoor.PSub Go.Proofs.YtkgijkfcmbpgpaaDoor.PAll
set_option linter.unusedVariables false
set_option linter.unusedSimpArgs false

theorem num_step (k : Nat) (L : List Int) (x : Int) (i : Nat) (hi : i < 8) (hL : L.length = 8) (h0 : 0 ≤ x) (h1 : x < 18446744073709551616) :
    legateref06_number.l0 (k + 1) L x (i : Int) = legateref06_number.l0 k (L.set i (x % 256)) (x / 256) ((i : Int) - 1) := by
  have e1 : wrap64 ((i : Int) - 1) = (i : Int) - 1 := by unfold wrap64; omega
  have e2 : IntKind.u64.wrap (Int.tdiv x 256) = x / 256 := by rw [td h0, show IntKind.u64.wrap (x / 256) = (x / 256) % 18446744073709551616 from rfl]; omega
  have e3 : (Int.tmod x 256) % 256 = x % 256 := by rw [tm h0]; omega
  rw [legateref06_number.l0, if_pos (by omega), if_pos (by omega), if_pos (by omega), Int.toNat_natCast, e1, e2, e3]
theorem num_end (k : Nat) (L : List Int) (x : Int) : legateref06_number.l0 (k + 1) L x (-1) = some (strOfNums L) := by
  rw [legateref06_number.l0, if_neg (by omega)]
theorem ref_number (n : Int) (k : Nat) (hk : 9 ≤ k) : legateref06_number.f k n = some (strOfNums (num8 n 8)) := by
  obtain ⟨k, rfl⟩ : ∃ j, k = j + 9 := ⟨k - 9, by omega⟩
  unfold legateref06_number.f
  rw [if_pos (by omega)]
  obtain ⟨X, hX⟩ : ∃ X, X = IntKind.u64.wrap n := ⟨_, rfl⟩
  rw [← hX]
  have hX2 : X = n % 18446744073709551616 := hX
  have s7 := num_step (k + 8) [0, 0, 0, 0, 0, 0, 0, 0] X 7 (by omega) rfl (by omega) (by omega)
  have s6 := num_step (k + 7) [0, 0, 0, 0, 0, 0, 0, X % 256] (X / 256) 6 (by omega) rfl (by omega) (by omega)
  have s5 := num_step (k + 6) [0, 0, 0, 0, 0, 0, X / 256 % 256, X % 256] (X / 256 / 256) 5 (by omega) rfl (by omega) (by omega)
  have s4 := num_step (k + 5) [0, 0, 0, 0, 0, X / 256 / 256 % 256, X / 256 % 256, X % 256] (X / 256 / 256 / 256) 4 (by omega) rfl (by omega) (by omega)
  have s3 := num_step (k + 4) [0, 0, 0, 0, X / 256 / 256 / 256 % 256, X / 256 / 256 % 256, X / 256 % 256, X % 256] (X / 256 / 256 / 256 / 256) 3 (by omega) rfl (by omega) (by omega)
  have s2 := num_step (k + 3) [0, 0, 0, X / 256 / 256 / 256 / 256 % 256, X / 256 / 256 / 256 % 256, X / 256 / 256 % 256, X / 256 % 256, X % 256] (X / 256 / 256 / 256 / 256 / 256) 2 (by omega) rfl (by omega) (by omega)
  have s1 := num_step (k + 2) [0, 0, X / 256 / 256 / 256 / 256 / 256 % 256, X / 256 / 256 / 256 / 256 % 256, X / 256 / 256 / 256 % 256, X / 256 / 256 % 256, X / 256 % 256, X % 256] (X / 256 / 256 / 256 / 256 / 256 / 256) 1 (by omega) rfl (by omega) (by omega)
  have s0 := num_step (k + 1) [0, X / 256 / 256 / 256 / 256 / 256 / 256 % 256, X / 256 / 256 / 256 / 256 / 256 % 256, X / 256 / 256 / 256 / 256 % 256, X / 256 / 256 / 256 % 256, X / 256 / 256 % 256, X / 256 % 256, X % 256] (X / 256 / 256 / 256 / 256 / 256 / 256 / 256) 0 (by omega) rfl (by omega) (by omega)
  refine (s7.trans (s6.trans (s5.trans (s4.trans (s3.trans (s2.trans (s1.trans (s0.trans (num_end k _ _)))))))) ).trans ?_
  congr 2
  have e : num8 n 8 = [byteAt n 0, byteAt n 1, byteAt n 2, byteAt n 3, byteAt n 4, byteAt n 5, byteAt n 6, byteAt n 7] := rfl
  rw [e]
  simp only [List.set_cons_zero, byteAt, Nat.mul_zero, Nat.sub_zero, Nat.reduceMul, Nat.reduceSub, Int.reducePow]
  simp only [List.cons.injEq, and_true]
  refine ⟨?_, ?_, ?_, ?_, ?_, ?_, ?_, ?_⟩ <;> omega
theorem str_bytesOf (s : ByteArray) : strOfNums (bytesOf s) = s := by
  apply ByteArray.ext
  show ((bytesOf s).map fun n => UInt8.ofNat n.toNat).toArray = s.data
  simp [bytesOf, Function.comp_def]
/-- The text out of a label, a number and a name. -/
def textB (l : ByteArray) (n : Int) (nm : ByteArray) : ByteArray := ((l ++ (⟨#[0]⟩ : ByteArray)) ++ strOfNums (num8 n 8)) ++ nm
theorem num8_size (n : Int) : (strOfNums (num8 n 8)).size = 8 := by rw [size_strOfNums, num8_len]
theorem textB_size (l : ByteArray) (n : Int) (nm : ByteArray) : (textB l n nm).size = l.size + 9 + nm.size := by
  unfold textB
  rw [ByteArray.size_append, ByteArray.size_append, ByteArray.size_append, num8_size]
  show l.size + 1 + 8 + nm.size = _
  omega
theorem text_some (l : ByteArray) (n : Int) (nm : ByteArray) (hl : l.size ≤ 100000000) (hn : nm.size ≤ 140737488355328) : derive_text.f l nm [n] = some (textB l n nm) := by
  unfold derive_text.f
  rw [if_pos ⟨hl, hn, by simp⟩]
  unfold textB headL
  rw [str_append, str_append, str_bytesOf]
  have e : numsL [n] [n].length = num8 n 8 := by simp [numsL]
  rw [e]
  rfl
def noB : ByteArray := ⟨#[]⟩
theorem app_noB (a : ByteArray) : a ++ noB = a := by
  apply ByteArray.ext
  rw [ByteArray.data_append]
  simp [noB]
/-- A key for one use. -/
def dkB (base : ByteArray) (use : Int) (label : ByteArray) : ByteArray := macB base (textB label use noB)
theorem dkB_size (base : ByteArray) (use : Int) (label : ByteArray) (hl : label.size ≤ 10000000) : (dkB base use label).size = 32 := by
  unfold dkB
  exact macB_size _ _ (by rw [textB_size]; show label.size + 9 + 0 ≤ _; omega)
theorem dkey_some (base : ByteArray) (use : Int) (label : ByteArray) (hb : base.size ≤ 100000000) (hl : label.size ≤ 10000000) : derive_Key.f base use label = some (dkB base use label) := by
  unfold derive_Key.f
  have e := text_some label use noB (by omega) (by show 0 ≤ _; omega)
  rw [show (⟨#[]⟩ : ByteArray) = noB from rfl, e]
  simp only [Option.bind_some]
  rw [mac_some base _ hb (by rw [textB_size]; show label.size + 9 + 0 ≤ _; omega)]
  rfl
def cipL : ByteArray := ⟨#[99, 105, 112, 104, 101, 114]⟩
def sumL : ByteArray := ⟨#[115, 117, 109]⟩
theorem dsum_some (base : ByteArray) (use : Int) (hb : base.size ≤ 100000000) : derive_Sum.f base use = some (dkB base use sumL) := by
  unfold derive_Sum.f
  rw [show (⟨#[115, 117, 109]⟩ : ByteArray) = sumL from rfl, dkey_some base use sumL hb (by show 3 ≤ _; omega)]
  rfl
def ckB (base : ByteArray) (use : Int) : ByteArray := (dkB base use cipL).extract 0 16
theorem ckB_size (base : ByteArray) (use : Int) : (ckB base use).size = 16 := by
  unfold ckB
  have h := dkB_size base use cipL (by show 6 ≤ _; omega)
  simp [h]
theorem dcip_some (base : ByteArray) (use : Int) (hb : base.size ≤ 100000000) : derive_Cipher.f base use = some (ckB base use) := by
  unfold derive_Cipher.f
  have h := dkB_size base use cipL (by show 6 ≤ _; omega)
  rw [show (⟨#[99, 105, 112, 104, 101, 114]⟩ : ByteArray) = cipL from rfl, dkey_some base use cipL hb (by show 6 ≤ _; omega)]
  simp only [Option.bind_some]
  rw [if_pos (by omega), if_pos (by omega)]
  rfl
def longL : ByteArray := ⟨#[108, 111, 110, 103]⟩
def sessL : ByteArray := ⟨#[115, 101, 115, 115, 105, 111, 110]⟩
theorem dlong_some (name : ByteArray) (v : Int) (secret : ByteArray) (hn : name.size ≤ 10000000) (hs : secret.size ≤ 100000000) : derive_Long.f name v secret = some (macB secret (textB longL v name)) := by
  unfold derive_Long.f
  rw [show (⟨#[108, 111, 110, 103]⟩ : ByteArray) = longL from rfl, text_some longL v name (by show 4 ≤ _; omega) (by omega)]
  simp only [Option.bind_some]
  rw [mac_some secret _ hs (by rw [textB_size]; show 4 + 9 + name.size ≤ _; omega)]
  rfl
theorem dsess_some (v : Int) (secret : ByteArray) (hs : secret.size ≤ 100000000) : derive_Session.f v secret = some (macB secret (textB sessL v noB)) := by
  unfold derive_Session.f
  rw [show (⟨#[115, 101, 115, 115, 105, 111, 110]⟩ : ByteArray) = sessL from rfl, show (⟨#[]⟩ : ByteArray) = noB from rfl, text_some sessL v noB (by show 7 ≤ _; omega) (by show 0 ≤ _; omega)]
  simp only [Option.bind_some]
  rw [mac_some secret _ hs (by rw [textB_size]; show 7 + 9 + 0 ≤ _; omega)]
  rfl
theorem works_of (c s k l n : ByteArray) (hc : c.size = 16) (hs : s.size = 32) (hk : k.size = 32) (hl : l.size = 32) (hn : n.size = 32) (C S K L M : Option ByteArray) (eC : C = some c) (eS : S = some s) (eK : K = some k) (eL : L = some l) (eM : M = some n) :
    (C.bind fun t342 => (if (t342.size : Int) = 16 then (S.bind fun t343 => (if (t343.size : Int) = 32 then (K.bind fun t344 => (if (t344.size : Int) = 32 then (L.bind fun t345 => (if (t345.size : Int) = 32 then (M.bind fun t346 => (some ((t346.size : Int) == 32))) else (some false))) else (some false))) else (some false))) else (some false))) = some true := by
  subst eC eS eK eL eM
  simp [hc, hs, hk, hl, hn]
theorem b1_size (x : UInt8) : (⟨#[x]⟩ : ByteArray).size ≤ 1000 := by show 1 ≤ 1000; omega
theorem works06 : legatelaw06_works.f = some true := by
  have s1 := b1_size 107
  have s2 := b1_size 120
  have s3 := b1_size 97
  have s4 := b1_size 115
  have l1 : longL.size = 4 := rfl
  have l2 : sessL.size = 7 := rfl
  have l3 : sumL.size = 3 := rfl
  have l4 : noB.size = 0 := rfl
  exact works_of _ _ _ _ _ (ckB_size _ _) (dkB_size _ _ _ (by omega)) (dkB_size _ _ _ (by omega)) (macB_size _ _ (by rw [textB_size]; omega)) (macB_size _ _ (by rw [textB_size]; omega)) _ _ _ _ _
    (dcip_some _ _ (by omega)) (dsum_some _ _ (by omega)) (dkey_some _ _ _ (by omega) (by omega)) (dlong_some _ _ _ (by omega) (by omega)) (dsess_some _ _ (by omega))
/-- The reference's keys. -/
theorem ref_dkey (base : ByteArray) (use : Int) (label : ByteArray) (hb : base.size ≤ 5000) (hl : label.size ≤ 1000) (k : Nat) (hk : 1000 ≤ k) :
    legateref06_Key.f k keysL (stB firstL) base use label = some (dkB base use label) := by
  have h1 : (label ++ (⟨#[0]⟩ : ByteArray)).size = label.size + 1 := by rw [ByteArray.size_append]; rfl
  have h2 := num8_size use
  unfold legateref06_Key.f
  rw [if_pos (by omega), ref_number use k (by omega)]
  simp only [Option.bind_some]
  rw [if_pos (by omega), ref_mac base _ (by omega) (by rw [ByteArray.size_append]; omega) k hk]
  simp only [Option.bind_some]
  unfold dkB textB
  rw [app_noB]
theorem ref_dcip (base : ByteArray) (use : Int) (hb : base.size ≤ 5000) (k : Nat) (hk : 1000 ≤ k) : legateref06_Cipher.f k keysL (stB firstL) base use = some (ckB base use) := by
  have h := dkB_size base use cipL (by show 6 ≤ _; omega)
  unfold legateref06_Cipher.f
  rw [show (⟨#[99, 105, 112, 104, 101, 114]⟩ : ByteArray) = cipL from rfl, ref_dkey base use cipL hb (by show 6 ≤ _; omega) k hk]
  simp only [Option.bind_some]
  rw [if_pos (by omega), if_pos (by omega)]
  rfl
theorem ref_dsum (base : ByteArray) (use : Int) (hb : base.size ≤ 5000) (k : Nat) (hk : 1000 ≤ k) : legateref06_Sum.f k keysL (stB firstL) base use = some (dkB base use sumL) := by
  unfold legateref06_Sum.f
  rw [show (⟨#[115, 117, 109]⟩ : ByteArray) = sumL from rfl, ref_dkey base use sumL hb (by show 3 ≤ _; omega) k hk]
  rfl
theorem ref_dlong (name : ByteArray) (v : Int) (secret : ByteArray) (hn : name.size ≤ 1000) (hs : secret.size ≤ 5000) (k : Nat) (hk : 1000 ≤ k) :
    legateref06_Long.f k keysL (stB firstL) name v secret = some (macB secret (textB longL v name)) := by
  have h2 := num8_size v
  have e : (⟨#[108, 111, 110, 103, 0]⟩ : ByteArray) = longL ++ (⟨#[0]⟩ : ByteArray) := by decide +kernel
  have h1 : (longL ++ (⟨#[0]⟩ : ByteArray)).size = 5 := by rw [ByteArray.size_append]; rfl
  unfold legateref06_Long.f
  rw [ref_number v k (by omega)]
  simp only [Option.bind_some]
  rw [if_pos (by omega), e, if_pos (by rw [ByteArray.size_append]; omega), ref_mac secret _ (by omega) (by rw [ByteArray.size_append, ByteArray.size_append]; omega) k hk]
  rfl
theorem ref_dsess (v : Int) (secret : ByteArray) (hs : secret.size ≤ 5000) (k : Nat) (hk : 1000 ≤ k) :
    legateref06_Session.f k keysL (stB firstL) v secret = some (macB secret (textB sessL v noB)) := by
  have h2 := num8_size v
  have e : (⟨#[115, 101, 115, 115, 105, 111, 110, 0]⟩ : ByteArray) = sessL ++ (⟨#[0]⟩ : ByteArray) := by decide +kernel
  have h1 : (sessL ++ (⟨#[0]⟩ : ByteArray)).size = 8 := by rw [ByteArray.size_append]; rfl
  unfold legateref06_Session.f
  rw [ref_number v k (by omega)]
  simp only [Option.bind_some]
  rw [if_pos (by omega), e, ref_mac secret _ (by omega) (by rw [ByteArray.size_append]; omega) k hk]
  simp only [Option.bind_some]
  unfold textB
  rw [app_noB]
end Go.Proofs.YtkgijkfcmbpgpaaDoor.Giv
