import Derived.Test.YtkgijkfcmbpgpaaDoorS2b0
import Derived.Test.YtkgijkfcmbpgpaaDoorS2b1
import Derived.Test.YtkgijkfcmbpgpaaDoorS2b12
import Derived.Test.YtkgijkfcmbpgpaaDoorS2b3
import Derived.Test.YtkgijkfcmbpgpaaDoorS2b4
import Derived.Test.YtkgijkfcmbpgpaaDoorS2b9
section
namespace Go.Proofs.YtkgijkfcmbpgpaaDoor.Giv
open Go.RowKit Go.Proofs.YtkgijkfcmbpgpaaDoorW.PrintWords Go.Proofs.YtkgijkfcmbpgpaaDoorW.PrintLast Go.Proofs.YtkgijkfcmbpgpaaDoorW.PrintMore
def Byt (l:List Int):Prop:=∀ x∈l,0≤x∧x<256
theorem toList_inj {a b:ByteArray} (h:a.toList=b.toList):a=b:=by
 rw [ByteArray.toList_eq,ByteArray.toList_eq] at h
 apply ByteArray.ext
 exact Array.toList_inj.1 h
theorem byte_back {x:Int} (h:0≤x∧x<256):((UInt8.ofNat x.toNat).toNat:Int)=x:=by
 have:x.toNat<256:=by omega
 simp [UInt8.toNat_ofNat_of_lt' (show x.toNat<UInt8.size from this)]
 omega
theorem pad_ge (k:Nat) (hk:100≤k) (n:Int) (h:0≤n):PAll.sha_Pad.f k n=some (padB n):=by
 unfold PAll.sha_Pad.f
 rw [if_neg (by omega)]
 have hz:=padZ_lt (n+1)
 have:=pad_l0 n (padZ (n+1)) (k - 10 - padZ (n+1)) [128] (by simp; omega) rfl
 rw [show k - 10 - padZ (n+1)+padZ (n+1)+10=k from by omega] at this
 rw [this]
 rfl
end Go.Proofs.YtkgijkfcmbpgpaaDoor.Giv
namespace Go.Proofs.YtkgijkfcmbpgpaaDoor.Giv
open Go.RowKit Go.Proofs.YtkgijkfcmbpgpaaDoorW.PrintWords Go.Proofs.YtkgijkfcmbpgpaaDoorW.PrintLast Go.Proofs.YtkgijkfcmbpgpaaDoorW.PrintMore Go.Proofs.YtkgijkfcmbpgpaaDoor.PSub
def W32 (x:Int):Prop:=0≤x∧x<4294967296
theorem bt_byte (s:ByteArray) (i:Int):0≤bt s i∧bt s i<256:=by
 unfold bt
 split
 ·exact ⟨by omega,by have:=(s[i.toNat]).toNat_lt; omega⟩
 ·omega
theorem bt_str (l:List Int) (hl:Byt l) (j:Nat) (hj:j<l.length):bt (strOfNums l) (j:Int)=l[j]:=by
 have hj':j<(strOfNums l).size:=by rw [size_strOfNums]; exact hj
 unfold bt
 rw [dif_pos (by simpa using hj')]
 have e:(strOfNums l)[((j:Int)).toNat]'(by simpa using hj')=UInt8.ofNat (l[j]).toNat:=by
  simp only [Int.toNat_natCast]
  show ((l.map fun n=>UInt8.ofNat n.toNat).toArray)[j]'(by simpa using hj)=_
  simp
 rw [e]
 exact byte_back (hl _ (List.getElem_mem hj))
theorem bt_extract (s:ByteArray) (a b j:Nat) (h:a+j<b) (hb:b≤s.size):bt (s.extract a b) (j:Int)=bt s ((a+j:Nat):Int):=by
 unfold bt
 have e1:(j:Int).toNat<(s.extract a b).size:=by simp; omega
 have e2:((a+j:Nat):Int).toNat<s.size:=by omega
 rw [dif_pos e1,dif_pos e2]
 simp only [Int.toNat_natCast]
 rw [ByteArray.getElem_extract]
theorem or_join (a b:Int) (i p:Nat) (hp:2 ^ i=p) (ha:W32 a) (hb:W32 b) (h1:a % p=0) (h2:b<p):Go.bits .or .u32 a b=a+b:=by
 rw [u32_or a b ha.1 ha.2 hb.1 hb.2]
 obtain ⟨a0,a1⟩:=ha
 obtain ⟨b0,b1⟩:=hb
 have c:((a.toNat % p:Nat):Int)=0:=by rw [Int.natCast_emod,Int.toNat_of_nonneg a0]; exact h1
 have e:=nat_join i a.toNat b.toNat (by rw [hp]; exact_mod_cast c) (by rw [hp]; omega)
 rw [e]; omega
theorem word_val (b0 b1 b2 b3:Int) (h0:0≤b0∧b0<256) (h1:0≤b1∧b1<256) (h2:0≤b2∧b2<256) (h3:0≤b3∧b3<256) :
 (Go.bits .or .u32 (Go.bits .or .u32 (Go.bits .or .u32 (((b0 % 4294967296) * 16777216) % 4294967296) (((b1 % 4294967296) * 65536) % 4294967296)) (((b2 % 4294967296) * 256) % 4294967296)) (b3 % 4294967296))
  = b0 * 16777216+b1 * 65536+b2 * 256+b3:=by
 rw [show ((b0 % 4294967296) * 16777216) % 4294967296=b0 * 16777216 from by omega,show ((b1 % 4294967296) * 65536) % 4294967296=b1 * 65536 from by omega,show ((b2 % 4294967296) * 256) % 4294967296=b2 * 256 from by omega,show b3 % 4294967296=b3 from by omega]
 rw [or_join (b0 * 16777216) (b1 * 65536) 24 16777216 (by decide) (by unfold W32; omega) (by unfold W32; omega) (by omega) (by omega)]
 rw [or_join (b0 * 16777216+b1 * 65536) (b2 * 256) 16 65536 (by decide) (by unfold W32; omega) (by unfold W32; omega) (by omega) (by omega)]
 rw [or_join (b0 * 16777216+b1 * 65536+b2 * 256) b3 8 256 (by decide) (by unfold W32; omega) (by unfold W32; omega) (by omega) (by omega)]
theorem wordAt_val (s:ByteArray) (i:Nat) (h:4 * i+4≤s.size) :
 wordAt s i=bt s ((4 * i:Nat):Int) * 16777216+bt s ((4 * i+1:Nat):Int) * 65536+bt s ((4 * i+2:Nat):Int) * 256+bt s ((4 * i+3:Nat):Int):=by
 have hs:=word_some s i h
 unfold sha_word.f at hs
 have e:((s.extract (4 * i) s.size).size:Int)≥4:=by simp; omega
 rw [if_pos (by omega),if_pos (by omega),if_pos (by omega),if_pos (by omega),word_val _ _ _ _ (bt_byte _ _) (bt_byte _ _) (bt_byte _ _) (bt_byte _ _)] at hs
 rw [← Option.some.inj hs]
 have b0:=bt_extract s (4 * i) s.size 0 (by omega) (by omega)
 have b1:=bt_extract s (4 * i) s.size 1 (by omega) (by omega)
 have b2:=bt_extract s (4 * i) s.size 2 (by omega) (by omega)
 have b3:=bt_extract s (4 * i) s.size 3 (by omega) (by omega)
 simp only [Nat.add_zero] at b0
 rw [← b0,← b1,← b2,← b3]
 rfl
theorem wordAt_w32 (s:ByteArray) (i:Nat) (h:4 * i+4≤s.size):W32 (wordAt s i):=by
 rw [wordAt_val s i h]
 have h0:=bt_byte s ((4 * i:Nat):Int)
 have h1:=bt_byte s ((4 * i+1:Nat):Int)
 have h2:=bt_byte s ((4 * i+2:Nat):Int)
 have h3:=bt_byte s ((4 * i+3:Nat):Int)
 unfold W32
 omega
def InR (v:List Int):Prop:=v.length=8∧∀ x∈v,W32 x
def stB (v:List Int):ByteArray:=strOfNums (textTo v 8)
theorem stB_size {v:List Int} (h:v.length=8):(stB v).size=32:=by
 unfold stB; rw [size_strOfNums,textTo_len v 8 (by omega)]
theorem wordBytes_byt (x:Int):Byt (wordBytes x):=by
 intro y hy
 simp only [wordBytes,List.mem_cons,List.not_mem_nil,or_false] at hy
 rcases hy with rfl|rfl|rfl|rfl<;>omega
theorem textTo_byt (v:List Int) (k:Nat):Byt (textTo v k):=by
 intro y hy
 obtain ⟨x,_,hx⟩:=List.mem_flatMap.1 hy
 exact wordBytes_byt x y hx
theorem textTo_at (v:List Int) (n i j:Nat) (hi:i<n) (hn:n≤v.length) (hj:j<4):(textTo v n)[4 * i+j]'(by rw [textTo_len v n hn]; omega)=(wordBytes (v[i]'(by omega)))[j]'(by simpa [wordBytes] using hj):=by
 induction n with
 | zero=>omega
 | succ n ih =>
  have e:=textTo_succ v n (by omega)
  have hl:=textTo_len v n (by omega)
  by_cases h:i<n
  case pos =>
   have:=ih h (by omega)
   rw [← this]
   simp only [e]
   rw [List.getElem_append_left (by omega)]
  obtain rfl:i=n:=by omega
  simp only [e]
  rw [List.getElem_append_right (by omega)]
  have ev:v.getD i 0=v[i]'(by omega):=by simp [show i<v.length by omega]
  simp only [ev,hl]
  congr 1
  omega
theorem read_stB {v:List Int} (h:InR v):wordsTo (stB v) 8 8=v:=by
 apply List.ext_getElem
 ·rw [wordsTo_len,h.1]
 ·intro i h1 h2
  rw [wordsTo_len] at h1
  have e:(wordsTo (stB v) 8 8)[i]'(by rw [wordsTo_len]; exact h1)=wordAt (stB v) i:=by simp [wordsTo,h1]
  rw [e,wordAt_val _ _ (by rw [stB_size h.1]; omega)]
  have hl:=textTo_len v 8 (by rw [h.1]; omega)
  have g:∀ j,(hj:j<4)→bt (stB v) ((4 * i+j:Nat):Int)=(wordBytes v[i])[j]'(by simpa [wordBytes] using hj):=fun j hj=>by
   unfold stB
   rw [bt_str _ (textTo_byt v 8) (4 * i+j) (by omega),textTo_at v 8 i j h1 (by rw [h.1]; omega) hj]
  have g0:=g 0 (by omega)
  have g1:=g 1 (by omega)
  have g2:=g 2 (by omega)
  have g3:=g 3 (by omega)
  simp only [Nat.add_zero] at g0
  rw [g0,g1,g2,g3]
  have hx:=h.2 _ (List.getElem_mem h2)
  simp only [wordBytes,List.getElem_cons_zero,List.getElem_cons_succ]
  unfold W32 at hx
  omega
end Go.Proofs.YtkgijkfcmbpgpaaDoor.Giv
namespace Go.Proofs.YtkgijkfcmbpgpaaDoor.Giv
open Go.RowKit Go.Proofs.YtkgijkfcmbpgpaaDoorW.PrintWords Go.Proofs.YtkgijkfcmbpgpaaDoorW.PrintLast Go.Proofs.YtkgijkfcmbpgpaaDoorW.PrintMore Go.Proofs.YtkgijkfcmbpgpaaDoor.PSub
theorem mod_w32 (x:Int):W32 (x % 4294967296):=by unfold W32; omega
theorem addTo_eq (R v:List Int) (hR:R.length=8):∃ a b c d e f g h:Int,
 addTo R v 8=[a % 4294967296,b % 4294967296,c % 4294967296,d % 4294967296,e % 4294967296,f % 4294967296,g % 4294967296,h % 4294967296]:=by
 obtain ⟨a,b,c,d,e,f,g,i,rfl⟩:=list8 hR
 exact ⟨a+v.getD 0 0,b+v.getD 1 0,c+v.getD 2 0,d+v.getD 3 0,e+v.getD 4 0,f+v.getD 5 0,g+v.getD 6 0,i+v.getD 7 0,by simp [addTo]⟩
theorem behindL_inR (s:ByteArray) (v:List Int) (hv:v.length=8):InR (behindL s v):=by
 refine ⟨behindL_len s v hv,?_⟩
 unfold behindL
 obtain ⟨a,b,c,d,e,f,g,h,e1⟩:=addTo_eq (rounds s v 64) v (rounds_len s v hv 64)
 rw [e1]
 intro x hx
 simp only [List.mem_cons,List.not_mem_nil,or_false] at hx
 rcases hx with rfl|rfl|rfl|rfl|rfl|rfl|rfl|rfl<;>exact mod_w32 _
theorem firstL_inR:InR firstL:=by
 refine ⟨rfl,?_⟩
 intro x hx
 simp only [firstL,List.mem_cons,List.not_mem_nil,or_false] at hx
 rcases hx with rfl|rfl|rfl|rfl|rfl|rfl|rfl|rfl<;>exact ⟨by decide,by decide⟩
theorem stTo_inR (t:ByteArray):∀ k,InR (stTo t k)
 | 0=>firstL_inR
 | k+1=>behindL_inR _ _ (stTo_inR t k).1
theorem block_st (v:List Int) (b:ByteArray) (h:InR v) (hb:b.size=64):sha_Block.f (stB v) b=some (stB (behindL b v)):=by
 unfold sha_Block.f
 rw [if_pos ⟨stB_size h.1,hb⟩]
 unfold blockB
 rw [read_stB h]
 rfl
theorem block_stTo (t:ByteArray) (k:Nat) (h:64 * k+64≤t.size):sha_Block.f (stB (stTo t k)) (t.extract (64 * k) (64 * k+64))=some (stB (stTo t (k+1))):=by
 rw [block_st _ _ (stTo_inR t k) (by simp; omega)]
 rfl
theorem sumB_st (s:ByteArray) (n:Nat) (h:(s++padB s.size).size=64 * n):sumB s=stB (stTo (s++padB s.size) n):=by
 unfold sumB
 rw [h,show 64 * n / 64=n from by omega]
 rfl
theorem sum_st (s:ByteArray) (n:Nat) (hs:s.size≤100000000) (h:(s++padB s.size).size=64 * n):sha_Sum.f s=some (stB (stTo (s++padB s.size) n)):=by
 unfold sha_Sum.f
 rw [if_pos hs,sumB_st s n h]
end Go.Proofs.YtkgijkfcmbpgpaaDoor.Giv
end
section
namespace Go.Proofs.YtkgijkfcmbpgpaaDoor.Giv
open Go.RowKit Go.Proofs.YtkgijkfcmbpgpaaDoorW.PrintWords Go.Proofs.YtkgijkfcmbpgpaaDoorW.PrintLast Go.Proofs.YtkgijkfcmbpgpaaDoorW.PrintMore Go.Proofs.YtkgijkfcmbpgpaaDoor.PSub
theorem bt_inb (s:ByteArray) (j:Nat) (h:j<s.size):bt s (j:Int)=((s[j]'h).toNat:Int):=by
 unfold bt
 rw [dif_pos (by simpa using h)]
 simp
theorem bt_out0 (s:ByteArray) (j:Nat) (h:s.size≤j):bt s (j:Int)=0:=by
 unfold bt
 rw [dif_neg (by simpa using h)]
theorem bt_ext {a b:ByteArray} (hs:a.size=b.size) (h:∀ j:Nat,j<a.size→bt a (j:Int)=bt b (j:Int)):a=b:=by
 apply ByteArray.ext
 apply Array.ext
 ·exact hs
 ·intro i h1 h2
  have e:=h i h1
  rw [bt_inb a i h1,bt_inb b i h2] at e
  have e2:(a[i]'h1).toNat=(b[i]'h2).toNat:=by exact_mod_cast e
  exact UInt8.toNat_inj.1 e2
theorem bt_app_l (a b:ByteArray) (j:Nat) (h:j<a.size):bt (a++b) (j:Int)=bt a (j:Int):=by
 rw [bt_inb _ _ (by rw [ByteArray.size_append]; omega),bt_inb _ _ h,ByteArray.getElem_append_left h]
theorem bt_app_r (a b:ByteArray) (j:Nat) (h:a.size≤j):bt (a++b) (j:Int)=bt b ((j - a.size:Nat):Int):=by
 by_cases hj:j<(a++b).size
 case neg =>
  rw [bt_out0 _ _ (by omega),bt_out0 _ _ (by rw [ByteArray.size_append] at hj; omega)]
 have hq:j - a.size<b.size:=by rw [ByteArray.size_append] at hj; omega
 rw [bt_inb _ _ hj,bt_inb _ _ hq,ByteArray.getElem_append_right h]
theorem str_append (l m:List Int):strOfNums (l++m)=strOfNums l++strOfNums m:=by
 apply ByteArray.ext
 rw [ByteArray.data_append]
 show ((l++m).map _).toArray=(l.map _).toArray++(m.map _).toArray
 simp
theorem fillL_byt (s:ByteArray):Byt (fillL s):=by
 intro x hx
 obtain ⟨i,_,rfl⟩:=List.mem_map.1 hx
 exact bt_byte _ _
theorem bt_key (s:ByteArray) (j:Nat) (h:j<64):bt (keyB s) (j:Int)=bt s (j:Int):=by
 unfold keyB
 rw [bt_str _ (fillL_byt s) j (by rw [fillL_len]; exact h)]
 simp [fillL]
theorem keyB_size (s:ByteArray):(keyB s).size=64:=fill_size s
theorem keyB_of64 {s:ByteArray} (h:s.size=64):keyB s=s :=
 bt_ext (by rw [keyB_size,h]) fun j hj=>bt_key s j (by rw [keyB_size] at hj; exact hj)
theorem keyB_app (s z:ByteArray) (hz:∀ j:Nat,bt z (j:Int)=0):keyB (s++z)=keyB s:=by
 refine bt_ext (by rw [keyB_size,keyB_size]) fun j hj=>?_
 rw [keyB_size] at hj
 rw [bt_key _ j hj,bt_key _ j hj]
 by_cases h:j<s.size
 case pos =>
  exact bt_app_l s z j h
 rw [bt_app_r s z j (by omega),hz,bt_out0 s j (by omega)]
theorem bt_zeros (n j:Nat):bt (strOfNums (List.replicate n 0)) (j:Int)=0:=by
 by_cases h:j<n
 case neg =>
  exact bt_out0 _ _ (by rw [size_strOfNums]; simp; omega)
 rw [bt_str _ (fun x hx=>by rw [List.mem_replicate] at hx; omega) j (by simpa using h)]
 simp
theorem sum_some (s:ByteArray) (h:s.size≤100000000):sha_Sum.f s=some (sumB s):=by unfold sha_Sum.f; rw [if_pos h]
theorem sumB_size (s:ByteArray) (h:s.size≤100000000):(sumB s).size=32:=sum_size32 (sum_some s h)
def kyB (a:ByteArray):ByteArray:=if a.size≤64 then keyB a else keyB (sumB a)
theorem kyB_size (a:ByteArray):(kyB a).size=64:=by unfold kyB; split<;>exact keyB_size _
theorem key_some (a:ByteArray) (h:a.size≤100000000):hmac_Key.f a=some (kyB a):=by
 unfold hmac_Key.f kyB
 split
 ·rfl
 ·rw [sum_some a h]; rfl
def macB (a m:ByteArray):ByteArray:=sumB (xorB (kyB a) 92++sumB (xorB (kyB a) 54++m))
theorem xorK_size (a:ByteArray) (c:Int):(xorB (kyB a) c).size=64:=by rw [xorB_size,kyB_size]
theorem mac_some (a m:ByteArray) (ha:a.size≤100000000) (hm:m.size≤90000000):hmac_Mac.f a m=some (macB a m):=by
 have h1:(xorB (kyB a) 54++m).size≤100000000:=by rw [ByteArray.size_append,xorK_size]; omega
 have h2:(xorB (kyB a) 92++sumB (xorB (kyB a) 54++m)).size≤100000000:=by rw [ByteArray.size_append,xorK_size,sumB_size _ h1]; omega
 unfold hmac_Mac.f
 rw [key_some a ha]
 simp only [Option.bind_some]
 rw [sum_some _ h1]
 simp only [Option.bind_some]
 rw [sum_some _ h2]
 rfl
theorem macB_size (a m:ByteArray) (hm:m.size≤90000000):(macB a m).size=32:=by
 have h1:(xorB (kyB a) 54++m).size≤100000000:=by rw [ByteArray.size_append,xorK_size]; omega
 exact sumB_size _ (by rw [ByteArray.size_append,xorK_size,sumB_size _ h1]; omega)
end Go.Proofs.YtkgijkfcmbpgpaaDoor.Giv
end
section
namespace Go.Proofs.YtkgijkfcmbpgpaaDoor.Giv
open Go.RowKit Go.Proofs.YtkgijkfcmbpgpaaDoor.PAll Go.Proofs.YtkgijkfcmbpgpaaDoorW.PrintWords Go.Proofs.YtkgijkfcmbpgpaaDoorW.PrintLast
theorem xor_zero {x y:Int} (hx:0≤x∧x<256) (hy:0≤y∧y<256):Go.bits .xor .u8 x y=0↔x=y:=by
 rw [u8_xor x y hx.1 hx.2 hy.1 hy.2]
 constructor
 ·intro h
  have e0:x.toNat ^^^ y.toNat=0:=by omega
  have e:x.toNat=y.toNat:=by
   have e1:(x.toNat ^^^ y.toNat) ^^^ y.toNat=x.toNat:=by rw [Nat.xor_assoc,Nat.xor_self,Nat.xor_zero]
   rw [e0,Nat.zero_xor] at e1
   exact e1.symm
  omega
 ·rintro rfl
  simp
theorem xor_byte (x y:Int) (hx:0≤x∧x<256) (hy:0≤y∧y<256):0≤Go.bits .xor .u8 x y∧Go.bits .xor .u8 x y<256:=by
 rw [u8_xor x y hx.1 hx.2 hy.1 hy.2]
 have:=Nat.xor_lt_two_pow (n:=8) (show x.toNat<2 ^ 8 by omega) (show y.toNat<2 ^ 8 by omega)
 omega
theorem or_zero {x y:Int} (hx:0≤x∧x<256) (hy:0≤y∧y<256):Go.bits .or .u8 x y=0↔x=0∧y=0:=by
 rw [u8_or x y hx.1 hx.2 hy.1 hy.2]
 have:=Nat.or_eq_zero_iff (n:=x.toNat) (m:=y.toNat)
 omega
theorem or_byte (x y:Int) (hx:0≤x∧x<256) (hy:0≤y∧y<256):0≤Go.bits .or .u8 x y∧Go.bits .or .u8 x y<256:=by
 rw [u8_or x y hx.1 hx.2 hy.1 hy.2]
 have:=Nat.or_lt_two_pow (n:=8) (show x.toNat<2 ^ 8 by omega) (show y.toNat<2 ^ 8 by omega)
 omega
open Classical in
theorem equal_l0 (a b:ByteArray) (hs:a.size=b.size) (ha:a.size≤140737488351232):∀ (n m k:Nat) (d:Int),m+n=a.size→n<k→0≤d∧d<256 →
 hmac_Equal.l0 k a b d (a.size:Int) (m:Int)=some (decide (d=0∧∀ j:Nat,m≤j→j<a.size→bt a (j:Int)=bt b (j:Int))):=by
 intro n
 induction n with
 | zero =>
  intro m k d hm hk hd
  obtain ⟨k,rfl⟩:∃ j,k=j+1:=⟨k - 1,by omega⟩
  simp only [hmac_Equal.l0]
  rw [if_neg (by omega)]
  congr 1
  by_cases h:d=0
  case neg =>
   rw [decide_eq_false (fun h2=>h h2.1)]
   simpa using h
  subst h
  simp only [BEq.rfl]
  exact (decide_eq_true ⟨trivial,fun j h1 h2=>by omega⟩).symm
 | succ n ih =>
  intro m k d hm hk hd
  obtain ⟨k,rfl⟩:∃ j,k=j+1:=⟨k - 1,by omega⟩
  simp only [hmac_Equal.l0]
  have e:wrap64 ((m:Int)+1)=((m+1:Nat):Int):=by unfold wrap64; omega
  have h1:=bt_byte a (m:Int)
  have h2:=bt_byte b (m:Int)
  have h3:=xor_byte _ _ h1 h2
  rw [if_pos (by omega),if_pos (by omega),if_pos (by omega),if_pos (by omega),e,ih (m+1) k _ (by omega) (by omega) (or_byte _ _ hd h3)]
  congr 1
  apply decide_eq_decide.2
  rw [or_zero hd h3,xor_zero h1 h2]
  constructor
  ·rintro ⟨⟨h4,h5⟩,h6⟩
   refine ⟨h4,fun j h7 h8=>?_⟩
   by_cases hj:j=m
   case pos =>
    rw [hj]; exact h5
   exact h6 j (by omega) h8
  ·rintro ⟨h4,h5⟩
   exact ⟨⟨h4,h5 m (by omega) (by omega)⟩,fun j h7 h8=>h5 j (by omega) h8⟩
theorem equal_some (a b:ByteArray) (ha:a.size≤140737488351232) (k:Nat) (hk:a.size<k):hmac_Equal.f k a b=some (decide (a=b)):=by
 unfold hmac_Equal.f
 by_cases hs:a.size=b.size
 case neg =>
  rw [if_neg (by omega)]
  have:a≠b:=fun e=>hs (by rw [e])
  simp [this]
 rw [if_pos (by omega),show (0:Int)=((0:Nat):Int) from rfl,equal_l0 a b hs ha a.size 0 k ((0:Nat):Int) (by omega) hk (by omega)]
 congr 1
 apply decide_eq_decide.2
 constructor
 ·rintro ⟨_,h⟩
  exact bt_ext hs fun j hj=>h j (by omega) hj
 ·rintro rfl
  exact ⟨rfl,fun _ _ _=>rfl⟩
end Go.Proofs.YtkgijkfcmbpgpaaDoor.Giv
end
section
namespace Go.Proofs.YtkgijkfcmbpgpaaDoor.Giv
open Go Go.RowKit Go.Proofs.YtkgijkfcmbpgpaaDoor Go.Proofs.YtkgijkfcmbpgpaaDoorW.PrintWords
def primL:List Int:=[2,3,5,7,11,13,17,19,23,29,31,37,41,43,47,53,59,61,67,71,73,79,83,89,97,101,103,107,109,113,127,131,137,139,149,151,157,163,167,173,179,181,191,193,197,199,211,223,227,229,233,239,241,251,257,263,269,271,277,281,283,293,307,311]
theorem prim_0:PAll.legateref02_prime.f 5000 0=some 2:=by kernel_rfl
theorem prim_1:PAll.legateref02_prime.f 5000 1=some 3:=by kernel_rfl
theorem prim_2:PAll.legateref02_prime.f 5000 2=some 5:=by kernel_rfl
theorem prim_3:PAll.legateref02_prime.f 5000 3=some 7:=by kernel_rfl
theorem prim_4:PAll.legateref02_prime.f 5000 4=some 11:=by kernel_rfl
theorem prim_5:PAll.legateref02_prime.f 5000 5=some 13:=by kernel_rfl
theorem prim_6:PAll.legateref02_prime.f 5000 6=some 17:=by kernel_rfl
theorem prim_7:PAll.legateref02_prime.f 5000 7=some 19:=by kernel_rfl
theorem prim_8:PAll.legateref02_prime.f 5000 8=some 23:=by kernel_rfl
theorem prim_9:PAll.legateref02_prime.f 5000 9=some 29:=by kernel_rfl
theorem prim_10:PAll.legateref02_prime.f 5000 10=some 31:=by kernel_rfl
theorem prim_11:PAll.legateref02_prime.f 5000 11=some 37:=by kernel_rfl
theorem prim_12:PAll.legateref02_prime.f 5000 12=some 41:=by kernel_rfl
theorem prim_13:PAll.legateref02_prime.f 5000 13=some 43:=by kernel_rfl
theorem prim_14:PAll.legateref02_prime.f 5000 14=some 47:=by kernel_rfl
theorem prim_15:PAll.legateref02_prime.f 5000 15=some 53:=by kernel_rfl
theorem prim_16:PAll.legateref02_prime.f 5000 16=some 59:=by kernel_rfl
theorem prim_17:PAll.legateref02_prime.f 5000 17=some 61:=by kernel_rfl
theorem prim_18:PAll.legateref02_prime.f 5000 18=some 67:=by kernel_rfl
theorem prim_19:PAll.legateref02_prime.f 5000 19=some 71:=by kernel_rfl
theorem prim_20:PAll.legateref02_prime.f 5000 20=some 73:=by kernel_rfl
theorem prim_21:PAll.legateref02_prime.f 5000 21=some 79:=by kernel_rfl
theorem prim_22:PAll.legateref02_prime.f 5000 22=some 83:=by kernel_rfl
theorem prim_23:PAll.legateref02_prime.f 5000 23=some 89:=by kernel_rfl
theorem prim_24:PAll.legateref02_prime.f 5000 24=some 97:=by kernel_rfl
theorem prim_25:PAll.legateref02_prime.f 5000 25=some 101:=by kernel_rfl
theorem prim_26:PAll.legateref02_prime.f 5000 26=some 103:=by kernel_rfl
theorem prim_27:PAll.legateref02_prime.f 5000 27=some 107:=by kernel_rfl
theorem prim_28:PAll.legateref02_prime.f 5000 28=some 109:=by kernel_rfl
theorem prim_29:PAll.legateref02_prime.f 5000 29=some 113:=by kernel_rfl
theorem prim_30:PAll.legateref02_prime.f 5000 30=some 127:=by kernel_rfl
theorem prim_31:PAll.legateref02_prime.f 5000 31=some 131:=by kernel_rfl
theorem prim_32:PAll.legateref02_prime.f 5000 32=some 137:=by kernel_rfl
theorem prim_33:PAll.legateref02_prime.f 5000 33=some 139:=by kernel_rfl
theorem prim_34:PAll.legateref02_prime.f 5000 34=some 149:=by kernel_rfl
theorem prim_35:PAll.legateref02_prime.f 5000 35=some 151:=by kernel_rfl
theorem prim_36:PAll.legateref02_prime.f 5000 36=some 157:=by kernel_rfl
theorem prim_37:PAll.legateref02_prime.f 5000 37=some 163:=by kernel_rfl
theorem prim_38:PAll.legateref02_prime.f 5000 38=some 167:=by kernel_rfl
theorem prim_39:PAll.legateref02_prime.f 5000 39=some 173:=by kernel_rfl
theorem prim_40:PAll.legateref02_prime.f 5000 40=some 179:=by kernel_rfl
theorem prim_41:PAll.legateref02_prime.f 5000 41=some 181:=by kernel_rfl
theorem prim_42:PAll.legateref02_prime.f 5000 42=some 191:=by kernel_rfl
theorem prim_43:PAll.legateref02_prime.f 5000 43=some 193:=by kernel_rfl
theorem prim_44:PAll.legateref02_prime.f 5000 44=some 197:=by kernel_rfl
theorem prim_45:PAll.legateref02_prime.f 5000 45=some 199:=by kernel_rfl
theorem prim_46:PAll.legateref02_prime.f 5000 46=some 211:=by kernel_rfl
theorem prim_47:PAll.legateref02_prime.f 5000 47=some 223:=by kernel_rfl
theorem prim_48:PAll.legateref02_prime.f 5000 48=some 227:=by kernel_rfl
theorem prim_49:PAll.legateref02_prime.f 5000 49=some 229:=by kernel_rfl
theorem prim_50:PAll.legateref02_prime.f 5000 50=some 233:=by kernel_rfl
theorem prim_51:PAll.legateref02_prime.f 5000 51=some 239:=by kernel_rfl
theorem prim_52:PAll.legateref02_prime.f 5000 52=some 241:=by kernel_rfl
theorem prim_53:PAll.legateref02_prime.f 5000 53=some 251:=by kernel_rfl
theorem prim_54:PAll.legateref02_prime.f 5000 54=some 257:=by kernel_rfl
theorem prim_55:PAll.legateref02_prime.f 5000 55=some 263:=by kernel_rfl
theorem prim_56:PAll.legateref02_prime.f 5000 56=some 269:=by kernel_rfl
theorem prim_57:PAll.legateref02_prime.f 5000 57=some 271:=by kernel_rfl
theorem prim_58:PAll.legateref02_prime.f 5000 58=some 277:=by kernel_rfl
theorem prim_59:PAll.legateref02_prime.f 5000 59=some 281:=by kernel_rfl
theorem prim_60:PAll.legateref02_prime.f 5000 60=some 283:=by kernel_rfl
theorem prim_61:PAll.legateref02_prime.f 5000 61=some 293:=by kernel_rfl
theorem prim_62:PAll.legateref02_prime.f 5000 62=some 307:=by kernel_rfl
theorem prim_63:PAll.legateref02_prime.f 5000 63=some 311:=by kernel_rfl
theorem cube_0:PAll.legateref02_root.f 200 2 true=some 1116352408:=by kernel_rfl
theorem cube_1:PAll.legateref02_root.f 200 3 true=some 1899447441:=by kernel_rfl
theorem cube_2:PAll.legateref02_root.f 200 5 true=some 3049323471:=by kernel_rfl
theorem cube_3:PAll.legateref02_root.f 200 7 true=some 3921009573:=by kernel_rfl
theorem cube_4:PAll.legateref02_root.f 200 11 true=some 961987163:=by kernel_rfl
theorem cube_5:PAll.legateref02_root.f 200 13 true=some 1508970993:=by kernel_rfl
theorem cube_6:PAll.legateref02_root.f 200 17 true=some 2453635748:=by kernel_rfl
theorem cube_7:PAll.legateref02_root.f 200 19 true=some 2870763221:=by kernel_rfl
theorem cube_8:PAll.legateref02_root.f 200 23 true=some 3624381080:=by kernel_rfl
theorem cube_9:PAll.legateref02_root.f 200 29 true=some 310598401:=by kernel_rfl
theorem cube_10:PAll.legateref02_root.f 200 31 true=some 607225278:=by kernel_rfl
theorem cube_11:PAll.legateref02_root.f 200 37 true=some 1426881987:=by kernel_rfl
theorem cube_12:PAll.legateref02_root.f 200 41 true=some 1925078388:=by kernel_rfl
theorem cube_13:PAll.legateref02_root.f 200 43 true=some 2162078206:=by kernel_rfl
theorem cube_14:PAll.legateref02_root.f 200 47 true=some 2614888103:=by kernel_rfl
theorem cube_15:PAll.legateref02_root.f 200 53 true=some 3248222580:=by kernel_rfl
theorem cube_16:PAll.legateref02_root.f 200 59 true=some 3835390401:=by kernel_rfl
theorem cube_17:PAll.legateref02_root.f 200 61 true=some 4022224774:=by kernel_rfl
theorem cube_18:PAll.legateref02_root.f 200 67 true=some 264347078:=by kernel_rfl
theorem cube_19:PAll.legateref02_root.f 200 71 true=some 604807628:=by kernel_rfl
theorem cube_20:PAll.legateref02_root.f 200 73 true=some 770255983:=by kernel_rfl
theorem cube_21:PAll.legateref02_root.f 200 79 true=some 1249150122:=by kernel_rfl
theorem cube_22:PAll.legateref02_root.f 200 83 true=some 1555081692:=by kernel_rfl
theorem cube_23:PAll.legateref02_root.f 200 89 true=some 1996064986:=by kernel_rfl
theorem cube_24:PAll.legateref02_root.f 200 97 true=some 2554220882:=by kernel_rfl
theorem cube_25:PAll.legateref02_root.f 200 101 true=some 2821834349:=by kernel_rfl
theorem cube_26:PAll.legateref02_root.f 200 103 true=some 2952996808:=by kernel_rfl
theorem cube_27:PAll.legateref02_root.f 200 107 true=some 3210313671:=by kernel_rfl
theorem cube_28:PAll.legateref02_root.f 200 109 true=some 3336571891:=by kernel_rfl
theorem cube_29:PAll.legateref02_root.f 200 113 true=some 3584528711:=by kernel_rfl
theorem cube_30:PAll.legateref02_root.f 200 127 true=some 113926993:=by kernel_rfl
theorem cube_31:PAll.legateref02_root.f 200 131 true=some 338241895:=by kernel_rfl
theorem cube_32:PAll.legateref02_root.f 200 137 true=some 666307205:=by kernel_rfl
theorem cube_33:PAll.legateref02_root.f 200 139 true=some 773529912:=by kernel_rfl
theorem cube_34:PAll.legateref02_root.f 200 149 true=some 1294757372:=by kernel_rfl
theorem cube_35:PAll.legateref02_root.f 200 151 true=some 1396182291:=by kernel_rfl
theorem cube_36:PAll.legateref02_root.f 200 157 true=some 1695183700:=by kernel_rfl
theorem cube_37:PAll.legateref02_root.f 200 163 true=some 1986661051:=by kernel_rfl
theorem cube_38:PAll.legateref02_root.f 200 167 true=some 2177026350:=by kernel_rfl
theorem cube_39:PAll.legateref02_root.f 200 173 true=some 2456956037:=by kernel_rfl
theorem cube_40:PAll.legateref02_root.f 200 179 true=some 2730485921:=by kernel_rfl
theorem cube_41:PAll.legateref02_root.f 200 181 true=some 2820302411:=by kernel_rfl
theorem cube_42:PAll.legateref02_root.f 200 191 true=some 3259730800:=by kernel_rfl
theorem cube_43:PAll.legateref02_root.f 200 193 true=some 3345764771:=by kernel_rfl
theorem cube_44:PAll.legateref02_root.f 200 197 true=some 3516065817:=by kernel_rfl
theorem cube_45:PAll.legateref02_root.f 200 199 true=some 3600352804:=by kernel_rfl
theorem cube_46:PAll.legateref02_root.f 200 211 true=some 4094571909:=by kernel_rfl
theorem cube_47:PAll.legateref02_root.f 200 223 true=some 275423344:=by kernel_rfl
theorem cube_48:PAll.legateref02_root.f 200 227 true=some 430227734:=by kernel_rfl
theorem cube_49:PAll.legateref02_root.f 200 229 true=some 506948616:=by kernel_rfl
theorem cube_50:PAll.legateref02_root.f 200 233 true=some 659060556:=by kernel_rfl
theorem cube_51:PAll.legateref02_root.f 200 239 true=some 883997877:=by kernel_rfl
theorem cube_52:PAll.legateref02_root.f 200 241 true=some 958139571:=by kernel_rfl
theorem cube_53:PAll.legateref02_root.f 200 251 true=some 1322822218:=by kernel_rfl
theorem cube_54:PAll.legateref02_root.f 200 257 true=some 1537002063:=by kernel_rfl
theorem cube_55:PAll.legateref02_root.f 200 263 true=some 1747873779:=by kernel_rfl
theorem cube_56:PAll.legateref02_root.f 200 269 true=some 1955562222:=by kernel_rfl
theorem cube_57:PAll.legateref02_root.f 200 271 true=some 2024104815:=by kernel_rfl
theorem cube_58:PAll.legateref02_root.f 200 277 true=some 2227730452:=by kernel_rfl
theorem cube_59:PAll.legateref02_root.f 200 281 true=some 2361852424:=by kernel_rfl
theorem cube_60:PAll.legateref02_root.f 200 283 true=some 2428436474:=by kernel_rfl
theorem cube_61:PAll.legateref02_root.f 200 293 true=some 2756734187:=by kernel_rfl
theorem cube_62:PAll.legateref02_root.f 200 307 true=some 3204031479:=by kernel_rfl
theorem cube_63:PAll.legateref02_root.f 200 311 true=some 3329325298:=by kernel_rfl
theorem square_0:PAll.legateref02_root.f 200 2 false=some 1779033703:=by kernel_rfl
theorem square_1:PAll.legateref02_root.f 200 3 false=some 3144134277:=by kernel_rfl
theorem square_2:PAll.legateref02_root.f 200 5 false=some 1013904242:=by kernel_rfl
theorem square_3:PAll.legateref02_root.f 200 7 false=some 2773480762:=by kernel_rfl
theorem square_4:PAll.legateref02_root.f 200 11 false=some 1359893119:=by kernel_rfl
theorem square_5:PAll.legateref02_root.f 200 13 false=some 2600822924:=by kernel_rfl
theorem square_6:PAll.legateref02_root.f 200 17 false=some 528734635:=by kernel_rfl
theorem square_7:PAll.legateref02_root.f 200 19 false=some 1541459225:=by kernel_rfl
theorem prim_at:∀ i:Nat,i<64→PAll.legateref02_prime.f 5000 (i:Int)=some (primL.getD i 0)
 | 0,_=>prim_0
 | 1,_=>prim_1
 | 2,_=>prim_2
 | 3,_=>prim_3
 | 4,_=>prim_4
 | 5,_=>prim_5
 | 6,_=>prim_6
 | 7,_=>prim_7
 | 8,_=>prim_8
 | 9,_=>prim_9
 | 10,_=>prim_10
 | 11,_=>prim_11
 | 12,_=>prim_12
 | 13,_=>prim_13
 | 14,_=>prim_14
 | 15,_=>prim_15
 | 16,_=>prim_16
 | 17,_=>prim_17
 | 18,_=>prim_18
 | 19,_=>prim_19
 | 20,_=>prim_20
 | 21,_=>prim_21
 | 22,_=>prim_22
 | 23,_=>prim_23
 | 24,_=>prim_24
 | 25,_=>prim_25
 | 26,_=>prim_26
 | 27,_=>prim_27
 | 28,_=>prim_28
 | 29,_=>prim_29
 | 30,_=>prim_30
 | 31,_=>prim_31
 | 32,_=>prim_32
 | 33,_=>prim_33
 | 34,_=>prim_34
 | 35,_=>prim_35
 | 36,_=>prim_36
 | 37,_=>prim_37
 | 38,_=>prim_38
 | 39,_=>prim_39
 | 40,_=>prim_40
 | 41,_=>prim_41
 | 42,_=>prim_42
 | 43,_=>prim_43
 | 44,_=>prim_44
 | 45,_=>prim_45
 | 46,_=>prim_46
 | 47,_=>prim_47
 | 48,_=>prim_48
 | 49,_=>prim_49
 | 50,_=>prim_50
 | 51,_=>prim_51
 | 52,_=>prim_52
 | 53,_=>prim_53
 | 54,_=>prim_54
 | 55,_=>prim_55
 | 56,_=>prim_56
 | 57,_=>prim_57
 | 58,_=>prim_58
 | 59,_=>prim_59
 | 60,_=>prim_60
 | 61,_=>prim_61
 | 62,_=>prim_62
 | 63,_=>prim_63
 | n+64,h=>absurd h (by omega)
theorem cube_at:∀ i:Nat,i<64→PAll.legateref02_root.f 200 (primL.getD i 0) true=some (keysL.getD i 0)
 | 0,_=>cube_0
 | 1,_=>cube_1
 | 2,_=>cube_2
 | 3,_=>cube_3
 | 4,_=>cube_4
 | 5,_=>cube_5
 | 6,_=>cube_6
 | 7,_=>cube_7
 | 8,_=>cube_8
 | 9,_=>cube_9
 | 10,_=>cube_10
 | 11,_=>cube_11
 | 12,_=>cube_12
 | 13,_=>cube_13
 | 14,_=>cube_14
 | 15,_=>cube_15
 | 16,_=>cube_16
 | 17,_=>cube_17
 | 18,_=>cube_18
 | 19,_=>cube_19
 | 20,_=>cube_20
 | 21,_=>cube_21
 | 22,_=>cube_22
 | 23,_=>cube_23
 | 24,_=>cube_24
 | 25,_=>cube_25
 | 26,_=>cube_26
 | 27,_=>cube_27
 | 28,_=>cube_28
 | 29,_=>cube_29
 | 30,_=>cube_30
 | 31,_=>cube_31
 | 32,_=>cube_32
 | 33,_=>cube_33
 | 34,_=>cube_34
 | 35,_=>cube_35
 | 36,_=>cube_36
 | 37,_=>cube_37
 | 38,_=>cube_38
 | 39,_=>cube_39
 | 40,_=>cube_40
 | 41,_=>cube_41
 | 42,_=>cube_42
 | 43,_=>cube_43
 | 44,_=>cube_44
 | 45,_=>cube_45
 | 46,_=>cube_46
 | 47,_=>cube_47
 | 48,_=>cube_48
 | 49,_=>cube_49
 | 50,_=>cube_50
 | 51,_=>cube_51
 | 52,_=>cube_52
 | 53,_=>cube_53
 | 54,_=>cube_54
 | 55,_=>cube_55
 | 56,_=>cube_56
 | 57,_=>cube_57
 | 58,_=>cube_58
 | 59,_=>cube_59
 | 60,_=>cube_60
 | 61,_=>cube_61
 | 62,_=>cube_62
 | 63,_=>cube_63
 | n+64,h=>absurd h (by omega)
theorem square_at:∀ i:Nat,i<8→PAll.legateref02_root.f 200 (primL.getD i 0) false=some (firstL.getD i 0)
 | 0,_=>square_0
 | 1,_=>square_1
 | 2,_=>square_2
 | 3,_=>square_3
 | 4,_=>square_4
 | 5,_=>square_5
 | 6,_=>square_6
 | 7,_=>square_7
 | n+8,h=>absurd h (by omega)
theorem prim_ge (i:Nat) (h:i<64) (n:Nat):PAll.legateref02_prime.f (5000+n) (i:Int)=some (primL.getD i 0):=by
 induction n with
 | zero=>exact prim_at i h
 | succ n ih=>exact PAll.legateref02_prime.mono _ _ _ ih
theorem cube_ge (i:Nat) (h:i<64) (n:Nat):PAll.legateref02_root.f (200+n) (primL.getD i 0) true=some (keysL.getD i 0):=by
 induction n with
 | zero=>exact cube_at i h
 | succ n ih=>exact PAll.legateref02_root.mono _ _ _ _ ih
theorem square_ge (i:Nat) (h:i<8) (n:Nat):PAll.legateref02_root.f (200+n) (primL.getD i 0) false=some (firstL.getD i 0):=by
 induction n with
 | zero=>exact square_at i h
 | succ n ih=>exact PAll.legateref02_root.mono _ _ _ _ ih
theorem keys_l0:∀ (n i k:Nat),i+n=64→5000+n<k→PAll.legateref02_Keys.l0 k (keysL.take i) (i:Int)=some keysL:=by
 intro n
 induction n with
 | zero =>
  intro i k hi hk
  obtain ⟨k,rfl⟩:∃ j,k=j+1:=⟨k - 1,by omega⟩
  obtain rfl:i=64:=by omega
  rw [PAll.legateref02_Keys.l0,if_neg (by omega)]
  rfl
 | succ n ih =>
  intro i k hi hk
  obtain ⟨k,rfl⟩:∃ j,k=j+1:=⟨k - 1,by omega⟩
  have e:wrap64 ((i:Int)+1)=((i+1:Nat):Int):=by unfold wrap64; omega
  have e1:=prim_ge i (by omega) (k - 5000)
  rw [show 5000+(k - 5000)=k from by omega] at e1
  have e2:=cube_ge i (by omega) (k - 200)
  rw [show 200+(k - 200)=k from by omega] at e2
  have e3:keysL.length=64:=rfl
  rw [PAll.legateref02_Keys.l0,if_pos (by omega),e1]
  simp only [Option.bind_some]
  rw [e2]
  simp only [Option.bind_some]
  rw [if_pos (by rw [List.length_take]; omega),e]
  have e4:keysL.take i++[keysL.getD i 0]=keysL.take (i+1):=by
   rw [List.take_succ_eq_append_getElem (by omega)]
   simp [show i<keysL.length by omega]
  rw [e4]
  exact ih (i+1) k (by omega) (by omega)
theorem keys_ref (k:Nat) (hk:6000≤k):PAll.legateref02_Keys.f k=some keysL:=keys_l0 64 0 k (by omega) (by omega)
end Go.Proofs.YtkgijkfcmbpgpaaDoor.Giv
end
