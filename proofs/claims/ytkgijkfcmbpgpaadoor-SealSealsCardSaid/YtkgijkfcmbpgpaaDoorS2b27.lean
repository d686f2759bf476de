import Derived.Test.YtkgijkfcmbpgpaaDoorS2b0
import Derived.Test.YtkgijkfcmbpgpaaDoorS2b1
import Derived.Test.YtkgijkfcmbpgpaaDoorS2b18
import Derived.Test.YtkgijkfcmbpgpaaDoorS2b20
import Derived.Test.YtkgijkfcmbpgpaaDoorS2b26
import Derived.Test.YtkgijkfcmbpgpaaDoorS2b7
section
namespace Go.Proofs.YtkgijkfcmbpgpaaDoor.Giv
open Go.RowKit Go.Proofs.YtkgijkfcmbpgpaaDoorW.PrintWords Go.Proofs.YtkgijkfcmbpgpaaDoorW.PrintLast Go.Proofs.YtkgijkfcmbpgpaaDoorW.PrintMore Go.Proofs.YtkgijkfcmbpgpaaDoor.PAll
set_option linter.unusedVariables false
set_option linter.unusedSimpArgs false
theorem all256 {p:Nat→Bool} (h:(List.range 256).all p=true) (n:Nat) (hn:n<256):p n=true :=
 List.all_eq_true.1 h n (List.mem_range.2 hn)
theorem nat_of_u8 {x:Int} (h:U8 x):∃ n:Nat,n<256∧x=(n:Int):=⟨x.toNat,by unfold U8 at h; omega,by unfold U8 at h; omega⟩
theorem tw_nat (n:Nat) (hn:n<256):tw (n:Int)=(tN n:Int):=by
 have h:(List.range 256).all (fun n=>decide (tw (n:Int)=(tN n:Int)))=true:=by kernel_rfl
 exact of_decide_eq_true (all256 h n hn)
theorem xor_lt {a b:Nat} (ha:a<256) (hb:b<256):a ^^^ b<256:=Nat.xor_lt_two_pow (n:=8) ha hb
def clN (a b:Nat):Nat→Nat
  | 0=>0
  | i+1=>clN a b i ^^^ (if b.testBit i then a <<< i else 0)
def rsN (n i:Nat):Nat:=n ^^^ (if n.testBit i then 283 <<< (i - 8) else 0)
def rdN (n:Nat):Nat→Nat
  | 0=>n
  | j+1=>rsN (rdN n j) (14 - j)
def rfN (a b:Nat):Nat:=rdN (clN a b 8) 7 % 2 ^ 8
theorem clN_linB (a:Nat):∀ i,Lin fun b=>clN a b i
 | 0=>Lin.const0
 | i+1=>(clN_linB a i).xor (Lin.bit i (a <<< i))
theorem clN_linA (b:Nat):∀ i,Lin fun a=>clN a b i
 | 0=>Lin.const0
 | i+1=>by
  refine Lin.xor (clN_linA b i) ?_
  cases b.testBit i
  ·exact Lin.const0
  ·exact Lin.shl i
theorem rsN_lin (i:Nat):Lin fun n=>rsN n i:=Lin.id.xor (Lin.bit i (283 <<< (i - 8)))
theorem rdN_lin:∀ j,Lin fun n=>rdN n j
 | 0=>Lin.id
 | j+1=>(rsN_lin (14 - j)).comp (rdN_lin j)
theorem rfN_linA (b:Nat):Lin fun a=>rfN a b:=(Lin.mod 8).comp ((rdN_lin 7).comp (clN_linA b 8))
theorem rfN_linB (a:Nat):Lin fun b=>rfN a b:=(Lin.mod 8).comp ((rdN_lin 7).comp (clN_linB a 8))
theorem rfN_mB (a b:Nat) (ha:a<256) (hb:b<256):rfN a b=mB a b:=by
 refine lin_ext (f:=fun a=>rfN a b) (g:=fun a=>mB a b) (rfN_linA b) (mN_linA 8 b) 8 ?_ a ha
 intro i hi
 refine lin_ext (f:=fun b=>rfN (2 ^ i) b) (g:=fun b=>mB (2 ^ i) b) (rfN_linB _) (mN_linB 8 _) 8 ?_ b hb
 intro j hj
 revert j
 revert i
 decide
theorem clN_lt (a b:Nat) (ha:a<256):∀ i,i≤8→clN a b i<2 ^ 15
 | 0,_=>by unfold clN; decide
 | i+1,hi=>by
  unfold clN
  refine Nat.xor_lt_two_pow (clN_lt a b ha i (by omega)) ?_
  split
  ·rw [Nat.shiftLeft_eq]
   have h1:=Nat.pow_le_pow_right (n:=2) (by omega) (show i≤7 by omega)
   calc a * 2 ^ i≤255 * 2 ^ 7:=Nat.mul_le_mul (by omega) h1
    _<2 ^ 15:=by decide
  ·decide
theorem rsN_lt (n i:Nat) (hn:n<2 ^ 15) (hi:i≤14):rsN n i<2 ^ 15:=by
 unfold rsN
 refine Nat.xor_lt_two_pow hn ?_
 split
 ·rw [Nat.shiftLeft_eq]
  have h1:=Nat.pow_le_pow_right (n:=2) (by omega) (show i - 8≤6 by omega)
  calc 283 * 2 ^ (i - 8)≤283 * 2 ^ 6:=Nat.mul_le_mul (by omega) h1
   _<2 ^ 15:=by decide
 ·decide
theorem rdN_lt (n:Nat) (hn:n<2 ^ 15):∀ j,rdN n j<2 ^ 15
 | 0=>hn
 | j+1=>rsN_lt _ _ (rdN_lt n hn j) (by omega)
theorem ofInt64 (a:Nat) (ha:a<18446744073709551616):(BitVec.ofInt 64 (a:Int)).toNat=a:=by
 rw [BitVec.ofInt_natCast,BitVec.toNat_ofNat]; exact Nat.mod_eq_of_lt (by omega)
theorem i64_xorN (a b:Nat) (ha:a<2 ^ 32) (hb:b<2 ^ 32):Go.bits .xor .i64 (a:Int) (b:Int)=((a ^^^ b:Nat):Int):=by
 have hx:a ^^^ b<2 ^ 32:=Nat.xor_lt_two_pow ha hb
 show IntKind.i64.wrap ((BitVec.ofInt 64 (a:Int) ^^^ BitVec.ofInt 64 (b:Int)).toNat:Int)=_
 rw [BitVec.toNat_xor,ofInt64 a (by omega),ofInt64 b (by omega),IntWalk.i64_in _ (by omega)]
theorem shl_i64N (a i:Nat) (hi:i≤16) (ha:a<2 ^ 32):shl .i64 (a:Int) (i:Int)=((a <<< i:Nat):Int):=by
 have hp:=Nat.pow_le_pow_right (n:=2) (by omega) hi
 have hm:a * 2 ^ i≤a * 2 ^ 16:=Nat.mul_le_mul (Nat.le_refl _) hp
 unfold shl
 rw [show min ((i:Int)).toNat IntKind.i64.bits=i from by rw [Int.toNat_natCast]; exact Nat.min_eq_left (by show i≤64; omega),Nat.shiftLeft_eq]
 have e:(a:Int) * 2 ^ i=((a * 2 ^ i:Nat):Int):=by rw [Int.natCast_mul,Int.natCast_pow]; rfl
 rw [e,IntWalk.i64_in _ (by omega)]
theorem shr_N (q:IntKind) (hq:8≤q.bits) (a i:Nat) (hi:i≤q.bits):shr q (a:Int) (i:Int)=((a >>> i:Nat):Int):=by
 unfold shr
 rw [show min ((i:Int)).toNat q.bits=i from by rw [Int.toNat_natCast]; exact Nat.min_eq_left hi,Nat.shiftRight_eq_div_pow,Int.natCast_ediv,Int.natCast_pow]
 rfl
theorem bit_test (a i:Nat):(Int.tmod ((a >>> i:Nat):Int) 2=1)↔a.testBit i=true:=by
 rw [Nat.testBit_eq_decide_div_mod_eq,decide_eq_true_eq,Nat.shiftRight_eq_div_pow,Int.tmod_eq_emod_of_nonneg (Int.natCast_nonneg _)]
 generalize a / 2 ^ i=q
 omega
theorem w64N (x:Nat) (h:x<9223372036854775808):wrap64 (x:Int)=(x:Int):=by unfold wrap64; omega
theorem ref_times_l1 (n:Nat) (hn:n<2 ^ 15):∀ (d j k:Nat),j+d=7→d<k→legateref04_Times.l1 k ((rdN n j:Nat):Int) ((14:Int) - (j:Int))=some ((rdN n 7 % 256:Nat):Int):=by
 intro d
 induction d with
 | zero =>
  intro j k hj hk
  obtain ⟨k,rfl⟩:∃ j,k=j+1:=⟨k - 1,by omega⟩
  obtain rfl:j=7:=by omega
  rw [legateref04_Times.l1,if_neg (by omega)]
  simp
 | succ d ih =>
  intro j k hj hk
  obtain ⟨k,rfl⟩:∃ j,k=j+1:=⟨k - 1,by omega⟩
  have e1:(14:Int) - (j:Int)=((14 - j:Nat):Int):=by omega
  have e2:wrap64 (((14 - j:Nat):Int) - 1)=(14:Int) - ((j+1:Nat):Int):=by unfold wrap64; omega
  have e3:wrap64 (((14 - j:Nat):Int) - 8)=((14 - j - 8:Nat):Int):=by unfold wrap64; omega
  have hl:=rdN_lt n hn j
  have hs:283 <<< (14 - j - 8)<2 ^ 15:=by
   rw [Nat.shiftLeft_eq]
   have h1:=Nat.pow_le_pow_right (n:=2) (by omega) (show 14 - j - 8≤6 by omega)
   calc 283 * 2 ^ (14 - j - 8)≤283 * 2 ^ 6:=Nat.mul_le_mul (by omega) h1
    _<2 ^ 15:=by decide
  rw [e1,legateref04_Times.l1,if_pos (by omega),if_pos (by omega),shr_N .i64 (by decide) _ _ (by show 14 - j≤64; omega),e2,e3]
  have hr:rdN n (j+1)=rdN n j ^^^ (if (rdN n j).testBit (14 - j) then 283 <<< (14 - j - 8) else 0):=rfl
  by_cases hb:(rdN n j).testBit (14 - j)=true
  case neg =>
   rw [if_neg (fun h=>hb ((bit_test _ _).1 h))]
   have hr':rdN n j=rdN n (j+1):=by rw [hr,if_neg hb,Nat.xor_zero]
   rw [hr']
   exact ih (j+1) k (by omega) (by omega)
  have h283:shl .i64 283 ((14 - j - 8:Nat):Int)=((283 <<< (14 - j - 8):Nat):Int):=shl_i64N 283 _ (by omega) (by decide)
  rw [if_pos ((bit_test _ _).2 hb),if_pos (by omega),h283,i64_xorN _ _ (by omega) (by omega)]
  have hr':rdN n j ^^^ 283 <<< (14 - j - 8)=rdN n (j+1):=by rw [hr,if_pos hb]
  rw [hr']
  exact ih (j+1) k (by omega) (by omega)
theorem ref_times_l0 (a b:Nat) (ha:a<256) (hb:b<256):∀ (d i k:Nat),i+d=8→d+9<k →
 legateref04_Times.l0 k (a:Int) (b:Int) ((clN a b i:Nat):Int) (i:Int)=some (mB a b:Int):=by
 intro d
 induction d with
 | zero =>
  intro i k hi hk
  obtain ⟨k,rfl⟩:∃ j,k=j+1:=⟨k - 1,by omega⟩
  obtain rfl:i=8:=by omega
  rw [legateref04_Times.l0,if_neg (by omega)]
  have:=ref_times_l1 (clN a b 8) (clN_lt a b ha 8 (by omega)) 7 0 k (by omega) (by omega)
  rw [← rfN_mB a b ha hb]
  exact this
 | succ d ih =>
  intro i k hi hk
  obtain ⟨k,rfl⟩:∃ j,k=j+1:=⟨k - 1,by omega⟩
  have e1:wrap64 ((i:Int)+1)=((i+1:Nat):Int):=by unfold wrap64; omega
  have hl:=clN_lt a b ha i (by omega)
  have hs:a <<< i<2 ^ 15:=by
   rw [Nat.shiftLeft_eq]
   have h1:=Nat.pow_le_pow_right (n:=2) (by omega) (show i≤7 by omega)
   calc a * 2 ^ i≤255 * 2 ^ 7:=Nat.mul_le_mul (by omega) h1
    _<2 ^ 15:=by decide
  rw [legateref04_Times.l0,if_pos (by omega),if_pos (by omega),shr_N .u8 (by decide) _ _ (by show i≤8; omega),e1,w64N a (by omega),shl_i64N a i (by omega) (by omega),i64_xorN _ _ (by omega) (by omega)]
  have hr:clN a b (i+1)=clN a b i ^^^ (if b.testBit i then a <<< i else 0):=rfl
  by_cases h:b.testBit i=true
  case pos =>
   rw [if_pos ((bit_test _ _).2 h)]
   have hr':clN a b i ^^^ a <<< i=clN a b (i+1):=by rw [hr,if_pos h]
   rw [hr']
   exact ih (i+1) k (by omega) (by omega)
  rw [if_neg (fun h2=>h ((bit_test _ _).1 h2))]
  have hr':clN a b i=clN a b (i+1):=by rw [hr,if_neg h,Nat.xor_zero]
  rw [hr']
  exact ih (i+1) k (by omega) (by omega)
theorem ref_times (k a b:Nat) (hk:20≤k) (ha:a<256) (hb:b<256):legateref04_Times.f k (a:Int) (b:Int)=some (mB a b:Int) :=
 ref_times_l0 a b ha hb 8 0 k (by omega) (by omega)
end Go.Proofs.YtkgijkfcmbpgpaaDoor.Giv
end
section
namespace Go.Proofs.YtkgijkfcmbpgpaaDoor.Giv
open Go.RowKit Go.Proofs.YtkgijkfcmbpgpaaDoorW.PrintWords Go.Proofs.YtkgijkfcmbpgpaaDoorW.PrintLast Go.Proofs.YtkgijkfcmbpgpaaDoorW.PrintMore Go.Proofs.YtkgijkfcmbpgpaaDoor.PAll
set_option linter.unusedVariables false
set_option linter.unusedSimpArgs false
set_option maxRecDepth 100000 in
def sboxL:List Int:=[99,124,119,123,242,107,111,197,48,1,103,43,254,215,171,118,202,130,201,125,250,89,71,240,173,212,162,175,156,164,114,192,183,253,147,38,54,63,247,204,52,165,229,241,113,216,49,21,4,199,35,195,24,150,5,154,7,18,128,226,235,39,178,117,9,131,44,26,27,110,90,160,82,59,214,179,41,227,47,132,83,209,0,237,32,252,177,91,106,203,190,57,74,76,88,207,208,239,170,251,67,77,51,133,69,249,2,127,80,60,159,168,81,163,64,143,146,157,56,245,188,182,218,33,16,255,243,210,205,12,19,236,95,151,68,23,196,167,126,61,100,93,25,115,96,129,79,220,34,42,144,136,70,238,184,20,222,94,11,219,224,50,58,10,73,6,36,92,194,211,172,98,145,149,228,121,231,200,55,109,141,213,78,169,108,86,244,234,101,122,174,8,186,120,37,46,28,166,180,198,232,221,116,31,75,189,139,138,112,62,181,102,72,3,246,14,97,53,87,185,134,193,29,158,225,248,152,17,105,217,142,148,155,30,135,233,206,85,40,223,140,161,137,13,191,230,66,104,65,153,45,15,176,84,187,22]
theorem swaps_box:swapsL=sboxL:=by kernel_rfl
theorem sboxL_len:sboxL.length=256:=by kernel_rfl
def sbN (a:Nat):Nat:=(sboxL.getD a 0).toNat
theorem sb_nat (a:Nat) (ha:a<256):sboxL.getD a 0=(sbN a:Int)∧sbN a<256:=by
 have h:(List.range 256).all (fun a=>decide (sboxL.getD a 0=(sbN a:Int)) && decide (sbN a<256))=true:=by kernel_rfl
 have:=all256 h a ha
 simp only [Bool.and_eq_true,decide_eq_true_eq] at this
 exact this
theorem in_lt (a:Nat) (ha:a<256):inN a<256:=by
 have h:(List.range 256).all (fun a=>decide (inN a<256))=true:=by kernel_rfl
 exact of_decide_eq_true (all256 h a ha)
theorem in_mul (a:Nat) (ha:a<256) (h0:a≠0):mB a (inN a)=1:=by
 have h:(List.range 256).all (fun a=>decide (a=0) || decide (mB a (inN a)=1))=true:=by kernel_rfl
 have:=all256 h a ha
 simp only [Bool.or_eq_true,decide_eq_true_eq] at this
 exact this.resolve_left h0
theorem mB_one_l (a:Nat) (ha:a<256):mB 1 a=a:=by rw [mB_comm 1 a (by omega) ha,mB_one]
theorem mB_zero_r (a:Nat):mB a 0=0:=mN_zeroB 8 a
theorem mB_zero_l (b:Nat):mB 0 b=0:=(mN_linA 8 b).zero
theorem in_only (a i:Nat) (ha:a<256) (hi:i<256) (h:mB a i=1):i=inN a:=by
 have h0:a≠0:=by rintro rfl; rw [mB_zero_l] at h; omega
 have h1:=in_mul a ha h0
 have h2:=in_lt a ha
 rw [← mB_one_l i hi,← h1,mB_comm a (inN a) ha h2,mB_assoc _ _ _ h2 ha hi,h,mB_one]
def swE (x5 x3:Int) (i:Nat):Int:=Go.bits .xor .i64 x5 (Int.tmod (Go.bits .or .i64 (shl .i64 x3 (i:Int)) (shr .i64 x3 ((8 - i:Nat):Int))) 256)
def boxE (b:Int):Int:=(swE (swE (swE (swE (swE 99 b 0) b 1) b 2) b 3) b 4) % 256
theorem box_E (a:Nat) (ha:a<256):boxE (inN a:Int)=(sbN a:Int):=by
 have h:(List.range 256).all (fun a=>decide (boxE (inN a:Int)=(sbN a:Int)))=true:=by kernel_rfl
 exact of_decide_eq_true (all256 h a ha)
theorem sw_step (k:Nat) (x3 x5:Int) (i:Nat) (hi:i≤4):legateref04_Swap.l1 (k+1) x3 x5 (i:Int)=legateref04_Swap.l1 k x3 (swE x5 x3 i) ((i+1:Nat):Int):=by
 have e1:wrap64 (8 - (i:Int))=((8 - i:Nat):Int):=by unfold wrap64; omega
 have e2:wrap64 ((i:Int)+1)=((i+1:Nat):Int):=by unfold wrap64; omega
 rw [legateref04_Swap.l1,e1,e2,if_pos (by omega),if_pos (by omega),if_pos (by omega)]
 rfl
theorem sw_end (k:Nat) (x3 x5:Int):legateref04_Swap.l1 (k+1) x3 x5 ((5:Nat):Int)=some (x5 % 256):=by
 rw [legateref04_Swap.l1,if_neg (by omega)]
theorem sw_l1 (k:Nat) (hk:6≤k) (b:Int):legateref04_Swap.l1 k b 99 0=some (boxE b):=by
 obtain ⟨k,rfl⟩:∃ j,k=j+6:=⟨k - 6,by omega⟩
 have s0:=sw_step (k+5) b 99 0 (by omega)
 have s1:=sw_step (k+4) b (swE 99 b 0) 1 (by omega)
 have s2:=sw_step (k+3) b (swE (swE 99 b 0) b 1) 2 (by omega)
 have s3:=sw_step (k+2) b (swE (swE (swE 99 b 0) b 1) b 2) 3 (by omega)
 have s4:=sw_step (k+1) b (swE (swE (swE (swE 99 b 0) b 1) b 2) b 3) 4 (by omega)
 exact s0.trans (s1.trans (s2.trans (s3.trans (s4.trans (sw_end k b _)))))
theorem sw_none (a:Nat) (ha:a<256) (h0:a=0):∀ (d i k:Nat),i+d=256→2 * d+30≤k→legateref04_Swap.l0 k (a:Int) 0 (i:Int)=some (boxE 0):=by
 intro d
 induction d with
 | zero =>
  intro i k hi hk
  obtain ⟨k,rfl⟩:∃ j,k=j+2:=⟨k - 2,by omega⟩
  rw [legateref04_Swap.l0,if_neg (by omega),legateref04_Swap.j1,if_neg (by simp)]
  exact sw_l1 k (by omega) 0
 | succ d ih =>
  intro i k hi hk
  obtain ⟨k,rfl⟩:∃ j,k=j+2:=⟨k - 2,by omega⟩
  have e:wrap64 ((i:Int)+1)=((i+1:Nat):Int):=by unfold wrap64; omega
  have em:(i:Int) % 256=(i:Int):=by omega
  rw [legateref04_Swap.l0,if_pos (by omega),legateref04_Swap.j1,if_pos (by rfl),em,ref_times k a i (by omega) ha (by omega)]
  simp only [Option.bind_some]
  rw [if_neg (by rw [h0,mB_zero_l]; decide),e]
  exact ih (i+1) k (by omega) (by omega)
theorem sw_some (a:Nat) (ha:a<256) (h0:a≠0):∀ (d i k:Nat),i+d=inN a→2 * d+40≤k→legateref04_Swap.l0 k (a:Int) 0 (i:Int)=some (boxE (inN a:Int)):=by
 have hl:=in_lt a ha
 intro d
 induction d with
 | zero =>
  intro i k hi hk
  obtain ⟨k,rfl⟩:∃ j,k=j+4:=⟨k - 4,by omega⟩
  have e:wrap64 ((i:Int)+1)=((i+1:Nat):Int):=by unfold wrap64; omega
  have em:(i:Int) % 256=(i:Int):=by omega
  have hm:=in_mul a ha h0
  have hi2:i=inN a:=by omega
  have hne:i≠0:=by
   rintro rfl
   rw [← hi2,mB_zero_r] at hm
   omega
  have hf:((i:Int) == 0)=false:=by rw [beq_eq_false_iff_ne]; omega
  rw [legateref04_Swap.l0,if_pos (by omega),legateref04_Swap.j1,if_pos (by rfl),em,ref_times (k+2) a i (by omega) ha (by omega)]
  simp only [Option.bind_some]
  rw [if_pos (by rw [hi2,hm]; rfl),e,legateref04_Swap.l0]
  by_cases h:((i+1:Nat):Int)<256
  case neg =>
   rw [if_neg h,legateref04_Swap.j1,if_neg (by simp),sw_l1 k (by omega),hi2]
  rw [if_pos h,hf,legateref04_Swap.j1,if_neg (by simp),sw_l1 k (by omega),hi2]
 | succ d ih =>
  intro i k hi hk
  obtain ⟨k,rfl⟩:∃ j,k=j+2:=⟨k - 2,by omega⟩
  have e:wrap64 ((i:Int)+1)=((i+1:Nat):Int):=by unfold wrap64; omega
  have em:(i:Int) % 256=(i:Int):=by omega
  rw [legateref04_Swap.l0,if_pos (by omega),legateref04_Swap.j1,if_pos (by rfl),em,ref_times k a i (by omega) ha (by omega)]
  simp only [Option.bind_some]
  have hne:mB a i≠1:=fun h=>by
   have:=in_only a i ha (by omega) h
   omega
  rw [if_neg (by omega),e]
  exact ih (i+1) k (by omega) (by omega)
theorem in_zero:inN 0=0:=by decide
theorem in_pos (a:Nat) (ha:a<256) (h0:a≠0):1≤inN a:=by
 have h:=in_mul a ha h0
 by_cases h2:inN a=0
 case neg =>
  omega
 rw [h2,mB_zero_r] at h; omega
theorem ref_swap (a:Nat) (ha:a<256) (k:Nat) (hk:600≤k):legateref04_Swap.f k (a:Int)=some (sbN a:Int):=by
 unfold legateref04_Swap.f
 have hl:=in_lt a ha
 by_cases h0:a=0
 case pos =>
  have:=sw_none a ha h0 255 1 k (by omega) (by omega)
  rw [← box_E a ha,h0,in_zero]
  subst h0
  exact this
 have h1:=in_pos a ha h0
 have:=sw_some a ha h0 (inN a - 1) 1 k (by omega) (by omega)
 rw [← box_E a ha]
 exact this
theorem ref_table_l0:∀ (d i k:Nat),i+d=256→d+600<k→legateref04_Table.l0 k (sboxL.take i) (i:Int)=some sboxL:=by
 intro d
 induction d with
 | zero =>
  intro i k hi hk
  obtain ⟨k,rfl⟩:∃ j,k=j+1:=⟨k - 1,by omega⟩
  obtain rfl:i=256:=by omega
  rw [legateref04_Table.l0,if_neg (by omega),List.take_of_length_le (by rw [sboxL_len]; omega)]
 | succ d ih =>
  intro i k hi hk
  obtain ⟨k,rfl⟩:∃ j,k=j+1:=⟨k - 1,by omega⟩
  have e:wrap64 ((i:Int)+1)=((i+1:Nat):Int):=by unfold wrap64; omega
  have em:(i:Int) % 256=(i:Int):=by omega
  have hlen:=sboxL_len
  rw [legateref04_Table.l0,if_pos (by omega),em,ref_swap i (by omega) k (by omega)]
  simp only [Option.bind_some]
  rw [if_pos (by rw [List.length_take]; omega),e]
  have e4:sboxL.take i++[(sbN i:Int)]=sboxL.take (i+1):=by
   rw [List.take_succ_eq_append_getElem (by omega),← (sb_nat i (by omega)).1]
   simp [show i<sboxL.length by omega]
  rw [e4]
  exact ih (i+1) k (by omega) (by omega)
theorem ref_table (k:Nat) (hk:1000≤k):legateref04_Table.f k=some sboxL:=ref_table_l0 256 0 k (by omega) (by omega)
end Go.Proofs.YtkgijkfcmbpgpaaDoor.Giv
end
section
namespace Go.Proofs.YtkgijkfcmbpgpaaDoor.Giv
open Go.RowKit Go.Proofs.YtkgijkfcmbpgpaaDoorW.PrintWords Go.Proofs.YtkgijkfcmbpgpaaDoorW.PrintLast Go.Proofs.YtkgijkfcmbpgpaaDoorW.PrintMore Go.Proofs.YtkgijkfcmbpgpaaDoor.PAll
set_option linter.unusedVariables false
set_option linter.unusedSimpArgs false
def bl (f:Nat→Int) (s:List Int) (n:Nat):List Int:=(List.range s.length).map fun i=>if i<n then f i else s.getD i 0
theorem bl_len (f:Nat→Int) (s:List Int) (n:Nat):(bl f s n).length=s.length:=by simp [bl]
theorem bl_at (f:Nat→Int) (s:List Int) (n i:Nat) (hi:i<s.length):(bl f s n).getD i 0=if i<n then f i else s.getD i 0:=by
 simp [bl,List.getD_eq_getElem?_getD,hi]
theorem list_ext {a b:List Int} (hl:a.length=b.length) (h:∀ i,i<a.length→a.getD i 0=b.getD i 0):a=b:=by
 apply List.ext_getElem hl
 intro i h1 h2
 have:=h i h1
 simpa [List.getD_eq_getElem?_getD,h1,h2] using this
theorem set_at (L:List Int) (i j:Nat) (x:Int) (hj:j<L.length):(L.set i x).getD j 0=if i=j then x else L.getD j 0:=by
 by_cases h:i=j
 case neg =>
  simp [List.getD_eq_getElem?_getD,h]
 subst h; simp [List.getD_eq_getElem?_getD,hj]
theorem bl_zero (f:Nat→Int) (s:List Int):bl f s 0=s:=by
 refine list_ext (bl_len _ _ _) fun i hi=>?_
 rw [bl_len] at hi
 rw [bl_at f s 0 i hi,if_neg (by omega)]
theorem bl_set (f:Nat→Int) (s:List Int) (n:Nat):(bl f s n).set n (f n)=bl f s (n+1):=by
 refine list_ext (by rw [List.length_set,bl_len,bl_len]) fun i hi=>?_
 rw [List.length_set,bl_len] at hi
 rw [set_at _ _ _ _ (by rw [bl_len]; exact hi),bl_at f s n i hi,bl_at f s (n+1) i hi]
 by_cases h:n=i
 case pos =>
  subst h; rw [if_pos rfl,if_pos (by omega)]
 rw [if_neg h]
 by_cases h2:i<n
 case neg =>
  rw [if_neg h2,if_neg (by omega)]
 rw [if_pos h2,if_pos (by omega)]
theorem bl_full {f g:Nat→Int} {s s':List Int} (hl:s.length=s'.length) (n:Nat) (hn:s.length≤n) (h:∀ i,i<s.length→f i=g i):bl f s n=bl g s' n:=by
 refine list_ext (by rw [bl_len,bl_len,hl]) fun i hi=>?_
 rw [bl_len] at hi
 rw [bl_at f s n i hi,bl_at g s' n i (by omega),if_pos (by omega),if_pos (by omega),h i hi]
theorem rdN' (L:List Int) (i:Nat):rd L (i:Int)=L.getD i 0:=by unfold rd; rw [Int.toNat_natCast]
theorem U8s.get {L:List Int} (h:U8s L) (i:Nat):∃ n:Nat,n<256∧L.getD i 0=(n:Int):=nat_of_u8 (by
 by_cases hi:i<L.length
 case neg =>
  rw [List.getD_eq_getElem?_getD,List.getElem?_eq_none (by omega)]
  unfold U8; simp
 rw [List.getD_eq_getElem?_getD,List.getElem?_eq_getElem hi]
 exact h _ (List.getElem_mem hi))
theorem adS_bl (s K:List Int):∀ k,k≤s.length→adS s K k=bl (fun i=>x8 (s.getD i 0) (K.getD i 0)) s k
 | 0,_=>(bl_zero _ s).symm
 | k+1,h=>by
  have ih:=adS_bl s K k (by omega)
  rw [adS,ih,bl_at _ _ _ _ (by omega),if_neg (by omega)]
  exact bl_set (fun i=>x8 (s.getD i 0) (K.getD i 0)) s k
theorem shS_bl (s t:List Int):∀ k,shS s t k=bl (fun i=>t.getD (s.getD (shJ i) 0).toNat 0) s k
 | 0=>(bl_zero _ s).symm
 | k+1=>by
  rw [shS,shS_bl s t k]
  exact bl_set (fun i=>t.getD (s.getD (shJ i) 0).toNat 0) s k
def mxV (s:List Int) (i:Nat):Int :=
  x8 (s.getD i 0) (x8 (x8 (x8 (x8 (s.getD (4 * (i / 4)) 0) (s.getD (4 * (i / 4)+1) 0)) (s.getD (4 * (i / 4)+2) 0)) (s.getD (4 * (i / 4)+3) 0)) (tw (x8 (s.getD i 0) (s.getD (4 * (i / 4)+(i % 4+1) % 4) 0))))
theorem mxS_bl (s:List Int) (hs:s.length=16):∀ k,k≤4→mxS s k=bl (mxV s) s (4 * k)
 | 0,_=>(bl_zero _ s).symm
 | k+1,h=>by
  have ih:=mxS_bl s hs k (by omega)
  have g:∀ i,4 * k≤i→i<16→(bl (mxV s) s (4 * k)).getD i 0=s.getD i 0:=fun i h1 h2=>by rw [bl_at _ _ _ _ (by omega),if_neg (by omega)]
  have v0:mxV s (4 * k)=x8 (s.getD (4 * k) 0) (x8 (x8 (x8 (x8 (s.getD (4 * k) 0) (s.getD (4 * k+1) 0)) (s.getD (4 * k+2) 0)) (s.getD (4 * k+3) 0)) (tw (x8 (s.getD (4 * k) 0) (s.getD (4 * k+1) 0)))):=by
   unfold mxV; rw [show 4 * k / 4=k from by omega,show (4 * k % 4+1) % 4=1 from by omega]
  have v1:mxV s (4 * k+1)=x8 (s.getD (4 * k+1) 0) (x8 (x8 (x8 (x8 (s.getD (4 * k) 0) (s.getD (4 * k+1) 0)) (s.getD (4 * k+2) 0)) (s.getD (4 * k+3) 0)) (tw (x8 (s.getD (4 * k+1) 0) (s.getD (4 * k+2) 0)))):=by
   unfold mxV; rw [show (4 * k+1) / 4=k from by omega,show ((4 * k+1) % 4+1) % 4=2 from by omega]
  have v2:mxV s (4 * k+2)=x8 (s.getD (4 * k+2) 0) (x8 (x8 (x8 (x8 (s.getD (4 * k) 0) (s.getD (4 * k+1) 0)) (s.getD (4 * k+2) 0)) (s.getD (4 * k+3) 0)) (tw (x8 (s.getD (4 * k+2) 0) (s.getD (4 * k+3) 0)))):=by
   unfold mxV; rw [show (4 * k+2) / 4=k from by omega,show ((4 * k+2) % 4+1) % 4=3 from by omega]
  have v3:mxV s (4 * k+3)=x8 (s.getD (4 * k+3) 0) (x8 (x8 (x8 (x8 (s.getD (4 * k) 0) (s.getD (4 * k+1) 0)) (s.getD (4 * k+2) 0)) (s.getD (4 * k+3) 0)) (tw (x8 (s.getD (4 * k+3) 0) (s.getD (4 * k) 0)))):=by
   unfold mxV; rw [show (4 * k+3) / 4=k from by omega,show ((4 * k+3) % 4+1) % 4=0 from by omega]; simp only [Nat.add_zero]
  rw [mxS,ih,mxRow,mx4,g (4 * k) (by omega) (by omega),g (4 * k+1) (by omega) (by omega),g (4 * k+2) (by omega) (by omega),g (4 * k+3) (by omega) (by omega),← v0,← v1,← v2,← v3,
   bl_set,bl_set,bl_set,bl_set,show 4 * (k+1)=4 * k+4 from by omega]
theorem x8N (a b:Nat) (ha:a<256) (hb:b<256):x8 (a:Int) (b:Int)=((a ^^^ b:Nat):Int):=u8_xor_nat a b ha hb
theorem mix_same (a b c d:Nat):a ^^^ ((a ^^^ b ^^^ c ^^^ d) ^^^ tN (a ^^^ b))=((tN a ^^^ (b ^^^ tN b)) ^^^ c) ^^^ d:=by
 rw [tN_lin a b]
 apply Nat.eq_of_testBit_eq
 intro i
 simp only [Nat.testBit_xor]
 cases a.testBit i<;>cases b.testBit i<;>cases c.testBit i<;>cases d.testBit i<;>cases (tN a).testBit i<;>cases (tN b).testBit i<;>rfl
theorem ref_mix (k:Nat) (hk:20≤k) (s:List Int) (h:U8s s) (hs:s.length=16) (c r:Nat) (hc:c<4) (hr:r<4) :
 ∃ p q,legateref04_Times.f k (s.getD (4 * c+r) 0) 2=some p∧legateref04_Times.f k (s.getD (4 * c+(r+1) % 4) 0) 3=some q ∧
  Go.bits .xor .u8 (Go.bits .xor .u8 (Go.bits .xor .u8 p q) (s.getD (4 * c+(r+2) % 4) 0)) (s.getD (4 * c+(r+3) % 4) 0)=mxV s (4 * c+r):=by
 obtain ⟨a,ha,ea⟩:=h.get (4 * c+r)
 obtain ⟨b,hb,eb⟩:=h.get (4 * c+(r+1) % 4)
 obtain ⟨x,hx,ex⟩:=h.get (4 * c+(r+2) % 4)
 obtain ⟨y,hy,ey⟩:=h.get (4 * c+(r+3) % 4)
 have t2:=ref_times k a 2 hk ha (by omega)
 have t3:=ref_times k b 3 hk hb (by omega)
 rw [mB_two] at t2
 rw [mB_three] at t3
 have l1:=tN_lt a
 have l2:=xor_lt hb (tN_lt b)
 refine ⟨_,_,by rw [ea]; exact t2,by rw [eb]; exact t3,?_⟩
 rw [ex,ey,u8_xor_nat _ _ l1 l2,u8_xor_nat _ _ (xor_lt l1 l2) hx,u8_xor_nat _ _ (xor_lt (xor_lt l1 l2) hx) hy,← mix_same a b x y]
 have z:x8 (x8 (x8 (s.getD (4 * c) 0) (s.getD (4 * c+1) 0)) (s.getD (4 * c+2) 0)) (s.getD (4 * c+3) 0)=((a ^^^ b ^^^ x ^^^ y:Nat):Int):=by
  have h4:r=0∨r=1∨r=2∨r=3:=by omega
  have A:∀ p q u v:Nat,p<256→q<256→u<256→v<256→x8 (x8 (x8 (p:Int) (q:Int)) (u:Int)) (v:Int)=((p ^^^ q ^^^ u ^^^ v:Nat):Int):=fun p q u v h1 h2 h3 h4=>by
   rw [x8N _ _ h1 h2,x8N _ _ (xor_lt h1 h2) h3,x8N _ _ (xor_lt (xor_lt h1 h2) h3) h4]
  rcases h4 with rfl|rfl|rfl|rfl
  ·simp only [Nat.add_zero,Nat.reduceAdd,Nat.reduceMod] at ea eb ex ey
   rw [ea,eb,ex,ey,A _ _ _ _ ha hb hx hy]
  ·simp only [Nat.add_zero,Nat.reduceAdd,Nat.reduceMod] at ea eb ex ey
   rw [ea,eb,ex,ey,A _ _ _ _ hy ha hb hx]
   congr 1
   ac_rfl
  ·simp only [Nat.add_zero,Nat.reduceAdd,Nat.reduceMod] at ea eb ex ey
   rw [ea,eb,ex,ey,A _ _ _ _ hx hy ha hb]
   congr 1
   ac_rfl
  ·simp only [Nat.add_zero,Nat.reduceAdd,Nat.reduceMod] at ea eb ex ey
   rw [ea,eb,ex,ey,A _ _ _ _ hb hx hy ha]
   congr 1
   ac_rfl
 have m1:(4 * c+r) / 4=c:=by omega
 have m2:((4 * c+r) % 4+1) % 4=(r+1) % 4:=by omega
 have zl:a ^^^ b ^^^ x ^^^ y<256:=xor_lt (xor_lt (xor_lt ha hb) hx) hy
 unfold mxV
 rw [m1,m2,z,ea,eb,x8N a b ha hb,tw_nat _ (xor_lt ha hb),x8N _ _ zl (tN_lt _),x8N _ _ ha (xor_lt zl (tN_lt _))]
def z16:List Int:=List.replicate 16 0
theorem z16_len:z16.length=16:=rfl
theorem w64I {x:Int} (h0:0≤x) (h1:x<9223372036854775808):wrap64 x=x:=by unfold wrap64; omega
theorem rl6 (T:List Int) (Kb:ByteArray) (R:Nat) (hR:R≤10) (hK:Kb.size=176) (U S:List Int) (hU:U.length=16) (hS:S.length=16):∀ (d n k:Nat),n+d=16 →
 legateref04_Encrypt.l6 (k+d+1) T Kb (bl (fun i=>Go.bits .xor .u8 (U.getD i 0) (bt Kb ((16 * R+i:Nat):Int))) S n) (R:Int) U (n:Int)=legateref04_Encrypt.l1 k T Kb (bl (fun i=>Go.bits .xor .u8 (U.getD i 0) (bt Kb ((16 * R+i:Nat):Int))) S 16) ((R+1:Nat):Int):=by
 intro d
 induction d with
 | zero =>
  intro n k hn
  obtain rfl:n=16:=by omega
  have e:wrap64 ((R:Int)+1)=((R+1:Nat):Int):=by unfold wrap64; omega
  rw [Nat.add_zero,legateref04_Encrypt.l6,if_neg (by omega),e]
 | succ d ih =>
  intro n k hn
  have e1:wrap64 (16 * (R:Int))=((16 * R:Nat):Int):=by unfold wrap64; omega
  have e2:wrap64 (((16 * R:Nat):Int)+(n:Int))=((16 * R+n:Nat):Int):=by unfold wrap64; omega
  have e3:wrap64 ((n:Int)+1)=((n+1:Nat):Int):=by unfold wrap64; omega
  rw [show k+(d+1)+1=(k+d+1)+1 from by omega,legateref04_Encrypt.l6,e1,e2,e3,if_pos (by omega),if_pos (by omega),if_pos (by omega),if_pos (by omega),if_pos (by omega),if_pos (by rw [bl_len]; omega),Int.toNat_natCast,rdN',bl_set (fun i=>Go.bits .xor .u8 (U.getD i 0) (bt Kb ((16 * R+i:Nat):Int)))]
  exact ih (n+1) k (by omega)
theorem col_ix (c r j:Nat) (x:Int) (hx:x=(j:Int)) (hc:c<4) (hr:r<4) (hj:j<4):wrap64 (((4 * c:Nat):Int)+Int.tmod (wrap64 ((r:Int)+x)) 4)=((4 * c+(r+j) % 4:Nat):Int):=by
 subst hx
 rw [w64I (x:=(r:Int)+(j:Int)) (by omega) (by omega),Int.tmod_eq_emod_of_nonneg (by omega),w64I (by omega) (by omega)]
 omega
def uF (A:List Int) (R i:Nat):Int:=if R<10 then mxV A i else A.getD i 0
theorem rl5 (T:List Int) (Kb:ByteArray) (S:List Int) (R:Nat) (A:List Int) (hA:A.length=16) (h8:U8s A) (c:Nat) (hc:c<4):∀ (d r k:Nat),r+d=4→20≤k →
 legateref04_Encrypt.l5 (k+d+1) T Kb S (R:Int) A (bl (uF A R) z16 (4 * c+r)) (c:Int) (r:Int)=legateref04_Encrypt.l4 k T Kb S (R:Int) A (bl (uF A R) z16 (4 * (c+1))) ((c+1:Nat):Int):=by
 intro d
 induction d with
 | zero =>
  intro r k hr hk
  obtain rfl:r=4:=by omega
  have e:wrap64 ((c:Int)+1)=((c+1:Nat):Int):=by unfold wrap64; omega
  rw [Nat.add_zero,legateref04_Encrypt.l5,if_neg (by omega),e]
  rfl
 | succ d ih =>
  intro r k hr hk
  have e1:wrap64 (4 * (c:Int))=((4 * c:Nat):Int):=by unfold wrap64; omega
  have e2:wrap64 (((4 * c:Nat):Int)+(r:Int))=((4 * c+r:Nat):Int):=by unfold wrap64; omega
  have e3:wrap64 ((r:Int)+1)=((r+1:Nat):Int):=by unfold wrap64; omega
  have hz:=z16_len
  rw [show k+(d+1)+1=(k+d+1)+1 from by omega,legateref04_Encrypt.l5,e1,e2,if_pos (by omega),if_pos (by omega),if_pos (by omega),if_pos (by rw [bl_len]; omega)]
  simp only [Option.bind_some]
  by_cases hR:R<10
  case neg =>
   have hu:uF A R (4 * c+r)=A.getD (4 * c+r) 0:=by unfold uF; rw [if_neg hR]
   rw [if_neg (by omega),rdN',Int.toNat_natCast,← hu,bl_set (uF A R),e3]
   exact ih (r+1) k (by omega) hk
  obtain ⟨p,q,hp,hq,hv⟩:=ref_mix (k+d+1) (by omega) A h8 hA c r hc (by omega)
  have hr4:r<4:=by omega
  have h1_:(1:Int)=((1:Nat):Int):=by omega
  have h2_:(2:Int)=((2:Nat):Int):=by omega
  have h3_:(3:Int)=((3:Nat):Int):=by omega
  have h1l:1<4:=by omega
  have h2l:2<4:=by omega
  have h3l:3<4:=by omega
  have F1:=zK (show wrap64 (((4 * c:Nat):Int)+Int.tmod (wrap64 ((r:Int)+1)) 4)=((4 * c+(r+1) % 4:Nat):Int) from col_ix c r 1 1 h1_ hc hr4 h1l)
  have F2:=zK (show wrap64 (((4 * c:Nat):Int)+Int.tmod (wrap64 ((r:Int)+2)) 4)=((4 * c+(r+2) % 4:Nat):Int) from col_ix c r 2 2 h2_ hc hr4 h2l)
  have F3:=zK (show wrap64 (((4 * c:Nat):Int)+Int.tmod (wrap64 ((r:Int)+3)) 4)=((4 * c+(r+3) % 4:Nat):Int) from col_ix c r 3 3 h3_ hc hr4 h3l)
  have hu:uF A R (4 * c+r)=mxV A (4 * c+r):=by unfold uF; rw [if_pos hR]
  rw [if_pos (by omega),F1.out,F2.out,F3.out,rdN',rdN',rdN',rdN',hp]
  simp only [Option.bind_some]
  rw [if_pos (by omega),if_pos (by omega),hq]
  simp only [Option.bind_some]
  rw [if_pos (by omega),if_pos (by omega),if_pos (by omega),if_pos (by omega),hv,Int.toNat_natCast,List.set_set,← hu,bl_set (uF A R),e3]
  exact ih (r+1) k (by omega) hk
theorem rl4 (T:List Int) (Kb:ByteArray) (S:List Int) (R:Nat) (A:List Int) (hA:A.length=16) (h8:U8s A):∀ (d c k:Nat),c+d=4→20≤k →
 legateref04_Encrypt.l4 (k+6 * d+1) T Kb S (R:Int) A (bl (uF A R) z16 (4 * c)) (c:Int)=legateref04_Encrypt.l6 k T Kb S (R:Int) (bl (uF A R) z16 16) 0:=by
 intro d
 induction d with
 | zero =>
  intro c k hc hk
  obtain rfl:c=4:=by omega
  rw [show k+6 * 0+1=k+1 from by omega,legateref04_Encrypt.l4,if_neg (by omega)]
 | succ d ih =>
  intro c k hc hk
  rw [show k+6 * (d+1)+1=(k+6 * d+1+4+1)+1 from by omega,legateref04_Encrypt.l4,if_pos (by omega)]
  have:=rl5 T Kb S R A hA h8 c (by omega) 4 0 (k+6 * d+1) (by omega) (by omega)
  rw [Nat.add_zero] at this
  exact this.trans (ih (c+1) k (by omega) hk)
def aF (T S:List Int) (i:Nat):Int:=T.getD (S.getD (shJ i) 0).toNat 0
theorem rl3 (T:List Int) (hT:T.length=256) (Kb:ByteArray) (S:List Int) (hS:S.length=16) (h8:U8s S) (R:Nat) (c:Nat) (hc:c<4):∀ (d r k:Nat),r+d=4 →
 legateref04_Encrypt.l3 (k+d+1) T Kb S (R:Int) (bl (aF T S) z16 (4 * c+r)) (c:Int) (r:Int)=legateref04_Encrypt.l2 k T Kb S (R:Int) (bl (aF T S) z16 (4 * (c+1))) ((c+1:Nat):Int):=by
 intro d
 induction d with
 | zero =>
  intro r k hr
  obtain rfl:r=4:=by omega
  have e:wrap64 ((c:Int)+1)=((c+1:Nat):Int):=by unfold wrap64; omega
  rw [Nat.add_zero,legateref04_Encrypt.l3,if_neg (by omega),e]
  rfl
 | succ d ih =>
  intro r k hr
  have e1:wrap64 (4 * (c:Int))=((4 * c:Nat):Int):=by unfold wrap64; omega
  have e2:wrap64 (((4 * c:Nat):Int)+(r:Int))=((4 * c+r:Nat):Int):=by unfold wrap64; omega
  have e3:wrap64 ((r:Int)+1)=((r+1:Nat):Int):=by unfold wrap64; omega
  have e4:wrap64 ((wrap64 (4 * (Int.tmod (wrap64 ((c:Int)+(r:Int))) 4)))+(r:Int))=((shJ (4 * c+r):Nat):Int):=by
   rw [w64I (x:=(c:Int)+(r:Int)) (by omega) (by omega),Int.tmod_eq_emod_of_nonneg (by omega),w64I (x:=4 * (((c:Int)+(r:Int)) % 4)) (by omega) (by omega),w64I (by omega) (by omega)]
   unfold shJ
   omega
  have hj:shJ (4 * c+r)<16:=by unfold shJ; omega
  have hz:=z16_len
  obtain ⟨v,hv,ev⟩:=h8.get (shJ (4 * c+r))
  rw [show k+(d+1)+1=(k+d+1)+1 from by omega,legateref04_Encrypt.l3,e4,e1,e2,e3,rdN',if_pos (by omega),if_pos (by omega),if_pos (by omega),if_pos (by rw [ev]; omega),if_pos (by rw [ev]; omega),if_pos (by omega),if_pos (by rw [bl_len]; omega),Int.toNat_natCast]
  have hr2:rd T (S.getD (shJ (4 * c+r)) 0)=aF T S (4 * c+r):=rfl
  rw [hr2,bl_set (aF T S)]
  exact ih (r+1) k (by omega)
theorem rl2 (T:List Int) (hT:T.length=256) (Kb:ByteArray) (S:List Int) (hS:S.length=16) (h8:U8s S) (R:Nat):∀ (d c k:Nat),c+d=4 →
 legateref04_Encrypt.l2 (k+6 * d+1) T Kb S (R:Int) (bl (aF T S) z16 (4 * c)) (c:Int)=legateref04_Encrypt.l4 k T Kb S (R:Int) (bl (aF T S) z16 16) z16 0:=by
 intro d
 induction d with
 | zero =>
  intro c k hc
  obtain rfl:c=4:=by omega
  rw [show k+6 * 0+1=k+1 from by omega,legateref04_Encrypt.l2,if_neg (by omega),if_pos (by omega)]
  rfl
 | succ d ih =>
  intro c k hc
  rw [show k+6 * (d+1)+1=(k+6 * d+1+4+1)+1 from by omega,legateref04_Encrypt.l2,if_pos (by omega)]
  have:=rl3 T hT Kb S hS h8 R c (by omega) 4 0 (k+6 * d+1) (by omega)
  rw [Nat.add_zero] at this
  exact this.trans (ih (c+1) k (by omega))
end Go.Proofs.YtkgijkfcmbpgpaaDoor.Giv
end
section
namespace Go.Proofs.YtkgijkfcmbpgpaaDoor.Giv
open Go.RowKit Go.Proofs.YtkgijkfcmbpgpaaDoorW.PrintWords Go.Proofs.YtkgijkfcmbpgpaaDoorW.PrintLast Go.Proofs.YtkgijkfcmbpgpaaDoorW.PrintMore Go.Proofs.YtkgijkfcmbpgpaaDoor.PAll
set_option linter.unusedVariables false
set_option linter.unusedSimpArgs false
theorem strN_size (l:List Int):(strOfNums l).size=l.length:=by simp [strOfNums,ByteArray.size]
theorem bytesOf_at (s:ByteArray) (i:Nat):(bytesOf s).getD i 0=bt s (i:Int):=by
 unfold bt
 by_cases h:i<s.size
 case neg =>
  rw [dif_neg (by simpa using h)]
  have h':s.data.toList.length≤i:=by rw [data_length]; omega
  simp [bytesOf,List.getD_eq_getElem?_getD,List.getElem?_eq_none h']
 rw [dif_pos (by simpa using h)]
 have h':i<s.data.toList.length:=by rw [data_length]; exact h
 simp only [bytesOf,List.getD_eq_getElem?_getD,List.getElem?_map,List.getElem?_eq_getElem h',Option.map_some,Option.getD_some,Int.toNat_natCast]
 rfl
theorem strN_at (l:List Int) (h8:U8s l) (i:Nat) (hi:i<l.length):bt (strOfNums l) (i:Int)=l.getD i 0:=by
 rw [← bytesOf_at]
 have h:=h8 _ (List.getElem_mem hi)
 unfold U8 at h
 have e:(bytesOf (strOfNums l)).getD i 0=((UInt8.ofNat (l[i]).toNat).toNat:Int):=by
  simp [bytesOf,strOfNums,List.getD_eq_getElem?_getD,hi]
 rw [e,List.getD_eq_getElem?_getD,List.getElem?_eq_getElem hi,Option.getD_some,UInt8.toNat_ofNat']
 omega
theorem bl_u8 {f:Nat→Int} {s:List Int} (n:Nat) (hf:∀ i,U8 (f i)) (hs:U8s s):U8s (bl f s n):=by
 intro x hx
 obtain ⟨i,hi,rfl⟩:=List.mem_map.1 hx
 show U8 (if i<n then f i else s.getD i 0)
 split
 ·exact hf i
 ·obtain ⟨m,hm,e⟩:=hs.get i
  rw [e]; unfold U8; omega
theorem z16_u8:U8s z16:=fun x hx=>by
 have:=(List.mem_replicate.1 hx).2
 subst this
 unfold U8; omega
theorem exR_u8 (t B:List Int):∀ m,U8 (exS t B m).2
 | 0=>by show U8 1; unfold U8; omega
 | m+1=>by
  show U8 (exR (exS t B m).2 (16+4 * m))
  unfold exR
  split
  ·obtain ⟨r,hr,e⟩:=nat_of_u8 (exR_u8 t B m)
   rw [e,tw_nat r hr]
   have:=tN_lt r
   unfold U8; omega
  ·exact exR_u8 t B m
theorem rx2 (T:List Int) (B w:List Int) (hB:B.length=176) (hw:w.length=4) (r:Int) (m:Nat) (hm:m<40):∀ (d j k:Nat),j+d=4 →
 legateref04_Expand.l2 (k+d+1) T (exPut B w (16+4 * m) j) r ((4+m:Nat):Int) w (j:Int)=legateref04_Expand.l1 k T (exPut B w (16+4 * m) 4) r ((4+(m+1):Nat):Int):=by
 intro d
 induction d with
 | zero =>
  intro j k hj
  obtain rfl:j=4:=by omega
  have E:=zK (show wrap64 (((4+m:Nat):Int)+1)=((4+(m+1):Nat):Int) from by unfold wrap64; omega)
  rw [Nat.add_zero,legateref04_Expand.l2,if_neg (by omega),E.out]
 | succ d ih =>
  intro j k hj
  have E1:=zK (show wrap64 (4 * ((4+m:Nat):Int))=((16+4 * m:Nat):Int) from by unfold wrap64; omega)
  have E2:=zK (show wrap64 (((16+4 * m:Nat):Int) - 16)=((4 * m:Nat):Int) from by unfold wrap64; omega)
  have E3:=zK (show wrap64 (((4 * m:Nat):Int)+(j:Int))=((16+4 * m+j - 16:Nat):Int) from by unfold wrap64; omega)
  have E4:=zK (show wrap64 (((16+4 * m:Nat):Int)+(j:Int))=((16+4 * m+j:Nat):Int) from by unfold wrap64; omega)
  have E5:=zK (show wrap64 ((j:Int)+1)=((j+1:Nat):Int) from by unfold wrap64; omega)
  have hl:=exPut_len B w (16+4 * m) j
  rw [show k+(d+1)+1=(k+d+1)+1 from by omega,legateref04_Expand.l2,E1.out,E2.out,E3.out,E4.out,E5.out,if_pos (by omega),if_pos (by omega),if_pos (by omega),if_pos (by omega),if_pos (by omega),if_pos (by omega),if_pos (by omega),rdN',rdN',Int.toNat_natCast]
  exact ih (j+1) k (by omega)
theorem rdX (T:List Int) (n:Nat):rd T (n:Int)=T.getD n 0:=rdN' T n
theorem exW_pos (t B:List Int) (r:Int) (i:Nat) (h:i % 16=0):exW t B r i=[x8 (t.getD (B.getD (i - 3) 0).toNat 0) r,t.getD (B.getD (i - 2) 0).toNat 0,t.getD (B.getD (i - 1) 0).toNat 0,t.getD (B.getD (i - 4) 0).toNat 0]:=by
 unfold exW; rw [if_pos h]
theorem exW_neg (t B:List Int) (r:Int) (i:Nat) (h:¬ i % 16=0):exW t B r i=[B.getD (i - 4) 0,B.getD (i - 3) 0,B.getD (i - 2) 0,B.getD (i - 1) 0]:=by
 unfold exW; rw [if_neg h]
theorem exR_pos (r:Int) (i:Nat) (h:i % 16=0):exR r i=tw r:=by unfold exR; rw [if_pos h]
theorem exR_neg (r:Int) (i:Nat) (h:¬ i % 16=0):exR r i=r:=by unfold exR; rw [if_neg h]
theorem rx1 (T:List Int) (hT:T.length=256) (B:List Int) (hB:B.length=176) (h8:U8s B) (m k:Nat) (hm:m<40) (hk:20≤k) :
 legateref04_Expand.l1 (k+7) T (exS T B m).1 (exS T B m).2 ((4+m:Nat):Int)=legateref04_Expand.l1 k T (exS T B (m+1)).1 (exS T B (m+1)).2 ((4+(m+1):Nat):Int):=by
 have hl:(exS T B m).1.length=176:=by rw [exS_len,hB]
 have hu:=exS_u8 T B h8 m
 obtain ⟨r,hr,er⟩:=nat_of_u8 (exR_u8 T B m)
 obtain ⟨L,hL⟩:∃ L,L=(exS T B m).1:=⟨_,rfl⟩
 have hS1:(exS T B (m+1)).1=exPut L (exW T L (exS T B m).2 (16+4 * m)) (16+4 * m) 4:=by rw [hL]; rfl
 have hS2:(exS T B (m+1)).2=exR (exS T B m).2 (16+4 * m):=rfl
 rw [hS1,hS2,← hL,er]
 rw [← hL] at hl hu
 clear hS1 hS2 hL er
 have hx2:∀ (w:List Int) (r:Int),w.length=4→legateref04_Expand.j2 (k+4+1+1) T L r ((4+m:Nat):Int) w=legateref04_Expand.l1 k T (exPut L w (16+4 * m) 4) r ((4+(m+1):Nat):Int):=fun w r hw=>by
  rw [legateref04_Expand.j2]
  exact rx2 T L w hl hw r m hm 4 0 k (by omega)
 obtain ⟨i,hi⟩:∃ i,i=16+4 * m:=⟨_,rfl⟩
 rw [← hi] at hx2 ⊢
 obtain ⟨a,ha,ea_⟩:=hu.get (i - 4)
 obtain ⟨b,hb,eb_⟩:=hu.get (i - 3)
 obtain ⟨c,hc,ec_⟩:=hu.get (i - 2)
 obtain ⟨d,hd,ed_⟩:=hu.get (i - 1)
 have EA:=zK ea_
 have EB:=zK eb_
 have EC:=zK ec_
 have ED:=zK ed_
 clear ea_ eb_ ec_ ed_
 have E1:=zK (show wrap64 (4 * ((4+m:Nat):Int))=(i:Int) from by unfold wrap64; omega)
 have E2:=zK (show wrap64 ((i:Int) - 4)=((i - 4:Nat):Int) from by unfold wrap64; omega)
 have E3:=zK (show wrap64 ((i:Int) - 3)=((i - 3:Nat):Int) from by unfold wrap64; omega)
 have E4:=zK (show wrap64 ((i:Int) - 2)=((i - 2:Nat):Int) from by unfold wrap64; omega)
 have E5:=zK (show wrap64 ((i:Int) - 1)=((i - 1:Nat):Int) from by unfold wrap64; omega)
 rw [show k+7=(k+4+1+1)+1 from by omega,legateref04_Expand.l1,E1.out,E2.out,E3.out,E4.out,E5.out]
 clear E1 E2 E3 E4 E5
 rw [if_pos (by omega),if_pos (by omega),if_pos (by omega),if_pos (by omega),if_pos (by omega),if_pos (by omega),if_pos (by omega),if_pos (by omega),if_pos (by omega),rdN',rdN',rdN',rdN',EA.out,EB.out,EC.out,ED.out]
 simp only [Option.bind_some]
 have EM:=zK (show (Int.tmod ((4+m:Nat):Int) 4=0)↔i % 16=0 from by
  rw [Int.tmod_eq_emod_of_nonneg (by omega)]; omega)
 by_cases h0:i % 16=0
 case neg =>
  rw [if_neg (fun h=>h0 (EM.out.1 h)),hx2 _ _ rfl]
  rewrite [exR_neg _ _ h0,exW_neg _ _ _ _ h0,EA.out,EB.out,EC.out,ED.out]
  rfl
 have q0:rd [(a:Int),(b:Int),(c:Int),(d:Int)] 0=(a:Int):=rfl
 have q1:rd [(a:Int),(b:Int),(c:Int),(d:Int)] 1=(b:Int):=rfl
 have q2:rd [(a:Int),(b:Int),(c:Int),(d:Int)] 2=(c:Int):=rfl
 have q3:rd [(a:Int),(b:Int),(c:Int),(d:Int)] 3=(d:Int):=rfl
 have ql:[(a:Int),(b:Int),(c:Int),(d:Int)].length=4:=rfl
 have t2_:=ref_times (k+4+1+1) r 2 (by omega) hr (by omega)
 rw [mB_two] at t2_
 have T2:=zK t2_
 clear t2_
 rw [if_pos (EM.out.2 h0),ql,q0,q1,q2,q3,if_pos (by omega),if_pos (by omega),if_pos (by omega),if_pos (by omega),if_pos (by omega),if_pos (by omega),if_pos (by omega),if_pos (by omega),if_pos (by omega),if_pos (by omega),if_pos (by omega),if_pos (by omega)]
 have t2':legateref04_Times.f (k+4+1+1) (r:Int) 2=some (tN r:Int):=T2.out
 rw [t2',Option.bind_some,hx2 _ _ rfl,rdX,rdX,rdX,rdX]
 rewrite [exR_pos _ _ h0,exW_pos _ _ _ _ h0,tw_nat r hr,EA.out,EB.out,EC.out,ED.out,Int.toNat_natCast,Int.toNat_natCast,Int.toNat_natCast,Int.toNat_natCast]
 rfl
theorem rx1_run (T:List Int) (hT:T.length=256) (B:List Int) (hB:B.length=176) (h8:U8s B):∀ (d m k:Nat),m+d=40→20≤k →
 legateref04_Expand.l1 (k+7 * d) T (exS T B m).1 (exS T B m).2 ((4+m:Nat):Int)=some (strOfNums (exS T B 40).1):=by
 intro d
 induction d with
 | zero =>
  intro m k hm hk
  obtain rfl:m=40:=by omega
  obtain ⟨k,rfl⟩:∃ j,k=j+1:=⟨k - 1,by omega⟩
  rw [show k+1+7 * 0=k+1 from by omega,legateref04_Expand.l1,if_neg (by omega)]
 | succ d ih =>
  intro m k hm hk
  rw [show k+7 * (d+1)=(k+7 * d)+7 from by omega,rx1 T hT B hB h8 m (k+7 * d) (by omega) (by omega)]
  exact ih (m+1) k (by omega) hk
def z176:List Int:=List.replicate 176 0
theorem z176_len:z176.length=176:=List.length_replicate
theorem rep_at (n i:Nat):(List.replicate n (0:Int)).getD i 0=0:=by
 rw [List.getD_eq_getElem?_getD,List.getElem?_replicate]
 split<;>rfl
theorem head_bl (key:ByteArray) (hk:key.size=16):headB key 176=bl (fun i=>bt key (i:Int)) z176 16:=by
 have hb:=bytesOf_length key
 refine list_ext (by rw [headB_len _ _ (by omega),bl_len,z176_len]) fun i hi=>?_
 rw [headB_len _ _ (by omega)] at hi
 rw [bl_at _ _ _ _ (by rw [z176_len]; exact hi)]
 unfold headB
 by_cases h:i<16
 case pos =>
  rw [if_pos h,← bytesOf_at]
  simp [List.getD_eq_getElem?_getD,List.getElem?_append_left (show i<(bytesOf key).length by omega)]
 rw [if_neg h]
 simp only [List.getD_eq_getElem?_getD]
 rw [List.getElem?_append_right (by omega)]
 have h1:z176[i]?.getD 0=0:=by rw [← List.getD_eq_getElem?_getD]; exact rep_at 176 i
 rw [h1,← List.getD_eq_getElem?_getD]
 exact rep_at _ _
theorem rx0 (T:List Int) (key:ByteArray) (hk:key.size=16):∀ (d i k:Nat),i+d=16 →
 legateref04_Expand.l0 (k+d+1) T key (bl (fun i=>bt key (i:Int)) z176 i) (i:Int)=legateref04_Expand.l1 k T (headB key 176) 1 4:=by
 intro d
 induction d with
 | zero =>
  intro i k hi
  obtain rfl:i=16:=by omega
  rw [Nat.add_zero,legateref04_Expand.l0,if_neg (by omega),head_bl key hk]
 | succ d ih =>
  intro i k hi
  have e:wrap64 ((i:Int)+1)=((i+1:Nat):Int):=by unfold wrap64; omega
  have hz:=z176_len
  rw [show k+(d+1)+1=(k+d+1)+1 from by omega,legateref04_Expand.l0,e,if_pos (by omega),if_pos (by omega),if_pos (by omega),if_pos (by rw [bl_len]; omega),Int.toNat_natCast,bl_set (fun i=>bt key (i:Int))]
  exact ih (i+1) k (by omega)
theorem ref_expand (T:List Int) (hT:T.length=256) (key:ByteArray) (k:Nat) (hk:400≤k) :
 legateref04_Expand.f k T key=some (if key.size=16 then strOfNums (expandL T key) else ⟨#[]⟩):=by
 unfold legateref04_Expand.f
 by_cases h:key.size=16
 case neg =>
  rw [if_neg (by omega),if_neg h]
 rw [if_pos (by omega),if_pos (by omega),if_pos h]
 obtain ⟨j,rfl⟩:∃ j,k=(j+7 * 40)+16+1:=⟨k - 297,by omega⟩
 have:=rx0 T key h 16 0 (j+7 * 40) (by omega)
 rw [bl_zero] at this
 refine this.trans ?_
 exact rx1_run T hT (headB key 176) (headB_len _ _ (by omega)) (headB_u8 key 176) 40 0 j (by omega) (by omega)
theorem rnd (T:List Int) (hT:T.length=256) (hT8:U8s T) (K:List Int) (hK:K.length=176) (hK8:U8s K) (S:List Int) (hS:S.length=16) (h8:U8s S) (R k:Nat) (h1:1≤R) (hR:R≤10) (hk:20≤k) :
 legateref04_Encrypt.l1 (k+68) T (strOfNums K) S (R:Int)=legateref04_Encrypt.l1 k T (strOfNums K) (encR T K S R) ((R+1:Nat):Int):=by
 have hKs:(strOfNums K).size=176:=by rw [strN_size,hK]
 have hA8:∀ i,U8 (aF T S i):=fun i=>by
  obtain ⟨n,hn,e⟩:=hT8.get (S.getD (shJ i) 0).toNat
  show U8 (T.getD (S.getD (shJ i) 0).toNat 0)
  rw [e]; unfold U8; omega
 obtain ⟨A,hA⟩:∃ A,A=bl (aF T S) z16 16:=⟨_,rfl⟩
 have hAl:A.length=16:=by rw [hA,bl_len]; rfl
 have hAu:U8s A:=by rw [hA]; exact bl_u8 16 hA8 z16_u8
 have s2:=rl2 T hT (strOfNums K) S hS h8 R 4 0 (k+16+1+6 * 4+1) (by omega)
 have s4:=rl4 T (strOfNums K) S R A hAl hAu 4 0 (k+16+1) (by omega) (by omega)
 rw [show 4 * 0=0 from rfl,bl_zero] at s2 s4
 rw [← hA] at s2
 have s6:=rl6 T (strOfNums K) R hR hKs (bl (uF A R) z16 16) S (by rw [bl_len]; rfl) hS 16 0 k (by omega)
 rw [bl_zero] at s6
 rw [show k+68=(k+16+1+6 * 4+1+6 * 4+1)+1 from by omega,legateref04_Encrypt.l1,if_pos (by omega),if_pos (by omega)]
 refine s2.trans (s4.trans (s6.trans ?_))
 congr 1
 have eA:shS S T 16=A:=by
  rw [shS_bl,hA]
  exact bl_full (by rw [hS]; rfl) 16 (by omega) fun i _=>rfl
 have eU:∀ i,i<16→(bl (uF A R) z16 16).getD i 0=uF A R i:=fun i hi=>by rw [bl_at _ _ _ _ (by rw [z16_len]; exact hi),if_pos hi]
 have eK:∀ i,i<16→bt (strOfNums K) ((16 * R+i:Nat):Int)=(K.drop (16 * R)).getD i 0:=fun i hi=>by
  rw [strN_at K hK8 _ (by omega)]
  simp [List.getD_eq_getElem?_getD,List.getElem?_drop]
 unfold encR
 rw [eA]
 by_cases h:R<10
 case neg =>
  rw [if_neg h,adS_bl _ _ 16 (by omega)]
  refine bl_full (by rw [hS,hAl]) 16 (by omega) fun i hi=>?_
  rw [hS] at hi
  rw [eU i hi,eK i hi]
  unfold uF
  rw [if_neg h]
  rfl
 rw [if_pos h,adS_bl _ _ 16 (by rw [mxS_len,hAl]; omega)]
 refine bl_full (by rw [mxS_len,hS,hAl]) 16 (by omega) fun i hi=>?_
 rw [hS] at hi
 rw [eU i hi,eK i hi,mxS_bl A hAl 4 (by omega),bl_at _ _ _ _ (by omega),if_pos (by omega)]
 unfold uF
 rw [if_pos h]
 rfl
theorem rnds (T:List Int) (hT:T.length=256) (hT8:U8s T) (K:List Int) (hK:K.length=176) (hK8:U8s K) (S:List Int) (hS:S.length=16) (h8:U8s S):∀ (d R k:Nat),R+d=10→20≤k →
 legateref04_Encrypt.l1 (k+68 * d) T (strOfNums K) (encS T K S R) ((R+1:Nat):Int)=some (strOfNums (encS T K S 10)):=by
 intro d
 induction d with
 | zero =>
  intro R k hR hk
  obtain rfl:R=10:=by omega
  obtain ⟨k,rfl⟩:∃ j,k=j+1:=⟨k - 1,by omega⟩
  rw [show k+1+68 * 0=k+1 from by omega,legateref04_Encrypt.l1,if_neg (by omega)]
 | succ d ih =>
  intro R k hR hk
  rw [show k+68 * (d+1)=(k+68 * d)+68 from by omega,rnd T hT hT8 K hK hK8 (encS T K S R) (by rw [encS_len,hS]) (encS_u8 T K S h8 hS hT8 R) (R+1) (k+68 * d) (by omega) (by omega) (by omega)]
  exact ih (R+1) k (by omega) hk
theorem rl0 (T:List Int) (blk:ByteArray) (hb:blk.size=16) (Kb:ByteArray) (hK:Kb.size=176):∀ (d i k:Nat),i+d=16 →
 legateref04_Encrypt.l0 (k+d+1) T blk Kb (bl (fun i=>Go.bits .xor .u8 (bt blk (i:Int)) (bt Kb (i:Int))) z16 i) (i:Int)=legateref04_Encrypt.l1 k T Kb (bl (fun i=>Go.bits .xor .u8 (bt blk (i:Int)) (bt Kb (i:Int))) z16 16) 1:=by
 intro d
 induction d with
 | zero =>
  intro i k hi
  obtain rfl:i=16:=by omega
  rw [Nat.add_zero,legateref04_Encrypt.l0,if_neg (by omega)]
 | succ d ih =>
  intro i k hi
  have e:wrap64 ((i:Int)+1)=((i+1:Nat):Int):=by unfold wrap64; omega
  have hz:=z16_len
  rw [show k+(d+1)+1=(k+d+1)+1 from by omega,legateref04_Encrypt.l0,e,if_pos (by omega),if_pos (by omega),if_pos (by omega),if_pos (by omega),if_pos (by rw [bl_len]; omega),Int.toNat_natCast,bl_set (fun i=>Go.bits .xor .u8 (bt blk (i:Int)) (bt Kb (i:Int)))]
  exact ih (i+1) k (by omega)
theorem ref_encrypt (T:List Int) (hT:T.length=256) (hT8:U8s T) (key blk:ByteArray) (k:Nat) (hk:2000≤k) :
 legateref04_Encrypt.f k T key blk=some (if key.size=16∧blk.size=16 then strOfNums (encS T (expandL T key) (bytesOf blk) 10) else ⟨#[]⟩):=by
 have out:legateref04_Encrypt.j0 k T key blk true=some ⟨#[]⟩:=by
  obtain ⟨k,rfl⟩:∃ j,k=j+1:=⟨k - 1,by omega⟩
  rw [legateref04_Encrypt.j0,if_pos rfl]
 unfold legateref04_Encrypt.f
 by_cases h1:key.size=16
 case neg =>
  rw [if_neg (by omega),if_neg (fun h=>h1 h.1),out]
 rw [if_pos (by omega)]
 by_cases h2:blk.size=16
 case neg =>
  have e:((blk.size:Int) != 16)=true:=by rw [bne_iff_ne]; omega
  rw [e,if_neg (fun h=>h2 h.2),out]
 have e:((blk.size:Int) != 16)=false:=by simp [h2]
 have hE:(expandL T key).length=176:=by unfold expandL; rw [exS_len,headB_len _ _ (by omega)]
 have hE8:U8s (expandL T key):=exS_u8 T _ (headB_u8 key 176) 40
 have hEs:(strOfNums (expandL T key)).size=176:=by rw [strN_size,hE]
 have hbl:(bytesOf blk).length=16:=by rw [bytesOf_length,h2]
 rw [e,if_pos ⟨h1,h2⟩]
 obtain ⟨j,rfl⟩:∃ j,k=((j+68 * 10)+16+1)+1:=⟨k - 698,by omega⟩
 rw [legateref04_Encrypt.j0,if_neg (by simp),ref_expand T hT key _ (by omega),if_pos h1]
 simp only [Option.bind_some]
 rw [if_pos (by omega)]
 have s0:=rl0 T blk h2 (strOfNums (expandL T key)) hEs 16 0 (j+68 * 10) (by omega)
 rw [bl_zero] at s0
 refine s0.trans ?_
 have eS:bl (fun i=>Go.bits .xor .u8 (bt blk (i:Int)) (bt (strOfNums (expandL T key)) (i:Int))) z16 16=encS T (expandL T key) (bytesOf blk) 0:=by
  show _=adS (bytesOf blk) (expandL T key) 16
  rw [adS_bl _ _ 16 (by omega)]
  refine bl_full (by rw [hbl]; rfl) 16 (by rw [z16_len]; omega) fun i hi=>?_
  rw [z16_len] at hi
  show Go.bits .xor .u8 _ _=Go.bits .xor .u8 _ _
  rw [bytesOf_at,strN_at _ hE8 i (by omega)]
 rw [eS]
 exact rnds T hT hT8 _ hE hE8 (bytesOf blk) hbl (bytesOf_u8 blk) 10 0 j (by omega) (by omega)
theorem sboxL_u8:U8s sboxL:=by rw [← swaps_box]; exact swapsL_u8
theorem ref_enc (key blk:ByteArray) (k:Nat) (hk:2000≤k):legateref04_Encrypt.f k sboxL key blk=aes_Encrypt.f key blk:=by
 rw [ref_encrypt sboxL sboxL_len sboxL_u8 key blk k hk]
 unfold aes_Encrypt.f encB
 rw [swaps_box]
 split<;>rfl
end Go.Proofs.YtkgijkfcmbpgpaaDoor.Giv
end
