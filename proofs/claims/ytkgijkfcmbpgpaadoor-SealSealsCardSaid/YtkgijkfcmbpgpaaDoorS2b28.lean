import Derived.Test.YtkgijkfcmbpgpaaDoorS2b0
import Derived.Test.YtkgijkfcmbpgpaaDoorS2b1
import Derived.Test.YtkgijkfcmbpgpaaDoorS2b10
import Derived.Test.YtkgijkfcmbpgpaaDoorS2b21
import Derived.Test.YtkgijkfcmbpgpaaDoorS2b24
import Derived.Test.YtkgijkfcmbpgpaaDoorS2b25
import Derived.Test.YtkgijkfcmbpgpaaDoorS2b26
import Derived.Test.YtkgijkfcmbpgpaaDoorS2b27
import Derived.Test.YtkgijkfcmbpgpaaDoorS2b8
section
namespace Go.Proofs.YtkgijkfcmbpgpaaDoor.Giv
open Go.RowKit Go.Proofs.YtkgijkfcmbpgpaaDoorW.PrintWords Go.Proofs.YtkgijkfcmbpgpaaDoorW.PrintLast Go.Proofs.YtkgijkfcmbpgpaaDoorW.PrintMore Go.Proofs.YtkgijkfcmbpgpaaDoor.PAll
set_option linter.unusedVariables false
set_option linter.unusedSimpArgs false
theorem streamB_list (key nonce:ByteArray) (n:Nat):(streamB key nonce n).data.toList=(catL (ctrPre key nonce ((n+15) / 16))).take n:=by
 unfold streamB
 simp [ByteArray.extract,ByteArray.copySlice]
theorem streamB_size (key nonce:ByteArray) (hn:nonce.size=12) (n:Nat):(streamB key nonce n).size=n:=by
 rw [← data_length,streamB_list,List.length_take,catL_len key nonce hn]
 omega
theorem ba_ext {a b:ByteArray} (h:a.data.toList=b.data.toList):a=b:=ByteArray.ext (Array.toList_inj.1 h)
theorem stream_some (key nonce:ByteArray) (n:Nat) (hk:key.size=16) (hn:nonce.size=12) (h:n≤1048576):ctr_Stream.f key nonce (n:Int)=some (streamB key nonce n):=by
 unfold ctr_Stream.f
 by_cases h0:n=0
 case neg =>
  rw [if_pos ⟨hk,hn,by omega,by omega⟩,Int.toNat_natCast]
 subst h0
 rw [if_neg (by omega)]
 have e:streamB key nonce 0=⟨#[]⟩:=ba_ext (by rw [streamB_list]; simp)
 rw [e]
theorem stream_none (key nonce:ByteArray) (n:Int) (h:¬ (key.size=16∧nonce.size=12)):ctr_Stream.f key nonce n=some ⟨#[]⟩:=by
 unfold ctr_Stream.f
 rw [if_neg (fun hh=>h ⟨hh.1,hh.2.1⟩)]
def xoL (s t:ByteArray):List Int:=(List.range s.size).map fun (i:Nat)=>Go.bits .xor .u8 (bt s (i:Int)) (bt t (i:Int))
def cipB (key nonce s:ByteArray):ByteArray:=strOfNums (xoL s (streamB key nonce s.size))
theorem xoL_len (s t:ByteArray):(xoL s t).length=s.size:=by simp [xoL]
theorem cipB_size (key nonce s:ByteArray):(cipB key nonce s).size=s.size:=by unfold cipB; rw [strN_size,xoL_len]
theorem rep0_len (n:Nat):(List.replicate n (0:Int)).length=n:=List.length_replicate
theorem xoL_bl (s t:ByteArray):xoL s t=bl (fun (i:Nat)=>Go.bits .xor .u8 (bt s (i:Int)) (bt t (i:Int))) (List.replicate s.size 0) s.size:=by
 refine list_ext (by rw [xoL_len,bl_len,rep0_len]) fun i hi=>?_
 rw [xoL_len] at hi
 rw [bl_at _ _ _ _ (by rw [rep0_len]; exact hi),if_pos hi]
 simp [xoL,List.getD_eq_getElem?_getD,hi]
theorem cip_l0 (s t:ByteArray) (ht:t.size=s.size) (hs:s.size≤100000000):∀ (d m k:Nat),m+d=s.size→d<k →
 ctr_Cipher.l0 k s t (bl (fun (i:Nat)=>Go.bits .xor .u8 (bt s (i:Int)) (bt t (i:Int))) (List.replicate s.size 0) m) (s.size:Int) (m:Int)=some (strOfNums (xoL s t)):=by
 intro d
 induction d with
 | zero =>
  intro m k hm hk
  obtain ⟨k,rfl⟩:∃ j,k=j+1:=⟨k - 1,by omega⟩
  obtain hm2:m=s.size:=by omega
  rw [ctr_Cipher.l0,if_neg (by omega),xoL_bl,hm2]
 | succ d ih =>
  intro m k hm hk
  obtain ⟨k,rfl⟩:∃ j,k=j+1:=⟨k - 1,by omega⟩
  have e:wrap64 ((m:Int)+1)=((m+1:Nat):Int):=by unfold wrap64; omega
  have hr:=rep0_len s.size
  rw [ctr_Cipher.l0,e,if_pos (by omega),if_pos (by omega),if_pos (by omega),if_pos (by omega),if_pos (by rw [bl_len]; omega),Int.toNat_natCast,bl_set (fun (i:Nat)=>Go.bits .xor .u8 (bt s (i:Int)) (bt t (i:Int)))]
  exact ih (m+1) k (by omega) (by omega)
theorem cipher_some (key nonce s:ByteArray) (k:Nat) (hk:s.size<k) (h1:key.size=16) (h2:nonce.size=12) (hs:s.size≤1048576):ctr_Cipher.f k key nonce s=some (cipB key nonce s):=by
 have ht:=streamB_size key nonce h2 s.size
 unfold ctr_Cipher.f
 rw [stream_some key nonce s.size h1 h2 hs,Option.bind_some,if_pos (by omega),if_pos (by omega),if_pos (by omega),Int.toNat_natCast]
 have:=cip_l0 s (streamB key nonce s.size) ht (by omega) s.size 0 k (by omega) hk
 rw [bl_zero] at this
 exact this
theorem cipher_none (key nonce s:ByteArray) (k:Nat) (hk:0<k) (h:¬ (key.size=16∧nonce.size=12)):ctr_Cipher.f k key nonce s=some ⟨#[]⟩:=by
 unfold ctr_Cipher.f
 rw [stream_none key nonce _ h,Option.bind_some]
 by_cases h0:s.size=0
 case neg =>
  rw [if_neg (by show ¬ ((0:Nat):Int)=_; omega)]
 obtain ⟨k,rfl⟩:∃ j,k=j+1:=⟨k - 1,by omega⟩
 rw [h0,if_pos (by rfl),if_pos (by omega),if_pos (by omega),ctr_Cipher.l0,if_neg (by omega)]
 rfl
theorem bt_u8' (s:ByteArray) (i:Int):U8 (bt s i):=by
 unfold bt U8
 split
 ·have:=(s[i.toNat]).toNat_lt; omega
 ·omega
theorem xoL_u8 (s t:ByteArray):U8s (xoL s t):=by
 intro x hx
 obtain ⟨i,_,rfl⟩:=List.mem_map.1 hx
 exact bits_u8 _ _ _ (.inr (.inr rfl))
theorem cip_at (key nonce s:ByteArray) (i:Nat) (hi:i<s.size):bt (cipB key nonce s) (i:Int)=Go.bits .xor .u8 (bt s (i:Int)) (bt (streamB key nonce s.size) (i:Int)):=by
 unfold cipB
 rw [strN_at _ (xoL_u8 _ _) i (by rw [xoL_len]; exact hi)]
 simp [xoL,List.getD_eq_getElem?_getD,hi]
theorem bt_same {a b:ByteArray} (hs:a.size=b.size) (h:∀ j:Nat,j<a.size→bt a (j:Int)=bt b (j:Int)):a=b:=by
 apply ByteArray.ext
 apply Array.ext
 ·exact hs
 ·intro i h1 h2
  have e:=h i h1
  have q:∀ (s:ByteArray) (hh:i<s.size),bt s (i:Int)=((s[i]'hh).toNat:Int):=fun s hh=>by
   unfold bt
   rw [dif_pos (by simpa using hh)]
   simp
  rw [q a h1,q b h2] at e
  have e2:(a[i]'h1).toNat=(b[i]'h2).toNat:=by exact_mod_cast e
  exact UInt8.toNat_inj.1 e2
theorem cip_twice (key nonce s:ByteArray):cipB key nonce (cipB key nonce s)=s:=by
 have hz:=cipB_size key nonce s
 refine bt_same (by rw [cipB_size,hz]) fun j hj=>?_
 rw [cipB_size,hz] at hj
 rw [cip_at _ _ _ j (by rw [hz]; exact hj),hz,cip_at _ _ _ j hj]
 obtain ⟨a,ha,ea⟩:=nat_of_u8 (bt_u8' s (j:Int))
 obtain ⟨b,hb,eb⟩:=nat_of_u8 (bt_u8' (streamB key nonce s.size) (j:Int))
 rw [ea,eb,u8_xor_nat a b ha hb,u8_xor_nat _ b (xor_lt ha hb) hb,Nat.xor_assoc,Nat.xor_self,Nat.xor_zero]
end Go.Proofs.YtkgijkfcmbpgpaaDoor.Giv
end
section
namespace Go.Proofs.YtkgijkfcmbpgpaaDoor.Giv
open Go.RowKit Go.Proofs.YtkgijkfcmbpgpaaDoorW.PrintWords Go.Proofs.YtkgijkfcmbpgpaaDoorW.PrintLast Go.Proofs.YtkgijkfcmbpgpaaDoorW.PrintMore Go.Proofs.YtkgijkfcmbpgpaaDoor.PSub Go.Proofs.YtkgijkfcmbpgpaaDoor.PAll
set_option linter.unusedVariables false
set_option linter.unusedSimpArgs false
theorem app_left (a b:ByteArray) (n:Nat) (h:n=a.size):(a++b).extract 0 n=a:=ByteArray.extract_append_eq_left h
theorem app_right (a b:ByteArray) (n m:Nat) (h:n=a.size) (hm:m=a.size+b.size):(a++b).extract n m=b:=ByteArray.extract_append_eq_right h hm
theorem app_mid (a b c:ByteArray) (n m:Nat) (h:n=a.size) (hm:m=a.size+b.size):((a++b)++c).extract n m=b:=by
 have e:((a++b)++c).extract n m=(a++b).extract n m:=by
  have z:(c.extract (n - (a++b).size) (m - (a++b).size)).size=0:=by
   rw [ByteArray.size_extract,ByteArray.size_append]; omega
  rw [ByteArray.extract_append]
  have z2:c.extract (n - (a++b).size) (m - (a++b).size)=ByteArray.empty:=ByteArray.size_eq_zero_iff.1 z
  rw [z2]
  exact ByteArray.append_empty
 rw [e]
 exact app_right a b n m h hm
def frontB (base:ByteArray) (use:Int) (nonce body:ByteArray):ByteArray:=nonce++cipB (ckB base use) nonce body
def smacB (base:ByteArray) (use:Int) (s:ByteArray):ByteArray:=macB (dkB base use sumL) s
def sealB (base:ByteArray) (use:Int) (nonce body:ByteArray):ByteArray:=frontB base use nonce body++smacB base use (frontB base use nonce body)
theorem frontB_size (base:ByteArray) (use:Int) (nonce body:ByteArray):(frontB base use nonce body).size=nonce.size+body.size:=by
 unfold frontB
 rw [ByteArray.size_append,cipB_size]
theorem smacB_size (base:ByteArray) (use:Int) (s:ByteArray) (h:s.size≤90000000):(smacB base use s).size=32:=macB_size _ _ h
theorem sealB_size (base:ByteArray) (use:Int) (nonce body:ByteArray) (hn:nonce.size=12) (hb:body.size≤65536):(sealB base use nonce body).size=body.size+44:=by
 unfold sealB
 rw [ByteArray.size_append,smacB_size _ _ _ (by rw [frontB_size]; omega),frontB_size]
 omega
theorem sumL_size:sumL.size=3:=rfl
theorem dkS_size (base:ByteArray) (use:Int):(dkB base use sumL).size=32:=dkB_size base use sumL (by rw [sumL_size]; omega)
theorem smac_some (base:ByteArray) (use:Int) (s:ByteArray) (h:s.size≤90000000):hmac_Mac.f (dkB base use sumL) s=some (smacB base use s) :=
 mac_some _ _ (by rw [dkS_size]; omega) h
theorem seal_some (base:ByteArray) (use:Int) (nonce body:ByteArray) (hb:base.size≤100000000) (hn:nonce.size=12) (hs:body.size≤65536) (k:Nat) (hk:65537<k) :
 seal_Seal.f k base use nonce body=some (sealB base use nonce body,0):=by
 obtain ⟨k,rfl⟩:∃ j,k=j+1:=⟨k - 1,by omega⟩
 have hc:=ckB_size base use
 have hf:=frontB_size base use nonce body
 have hm:=smacB_size base use (frontB base use nonce body) (by omega)
 unfold seal_Seal.f
 rw [if_pos (by omega),decide_eq_false (by omega),seal_Seal.j0,if_neg (by simp),dcip_some base use hb,Option.bind_some,cipher_some _ nonce body k (by omega) hc hn (by omega),Option.bind_some,
  if_pos (by rw [cipB_size]; omega),dsum_some base use hb,Option.bind_some]
 have e:nonce++cipB (ckB base use) nonce body=frontB base use nonce body:=rfl
 rw [e,smac_some base use _ (by omega),Option.bind_some,if_pos (by omega)]
 rfl
theorem seal_none (base:ByteArray) (use:Int) (nonce body:ByteArray) (hn:¬ nonce.size=12) (k:Nat) (hk:0<k) :
 seal_Seal.f k base use nonce body=some (⟨#[]⟩,1):=by
 obtain ⟨k,rfl⟩:∃ j,k=j+1:=⟨k - 1,by omega⟩
 unfold seal_Seal.f
 rw [if_neg (by omega),seal_Seal.j0,if_pos rfl]
theorem open_short (base:ByteArray) (use:Int) (s:ByteArray) (h:s.size<44) (k:Nat):seal_Open.f k base use s=some (⟨#[]⟩,10):=by
 unfold seal_Open.f
 rw [if_pos (by omega)]
open Classical in
theorem open_some (base:ByteArray) (use:Int) (s:ByteArray) (hb:base.size≤100000000) (h1:44≤s.size) (h2:s.size≤65580) (k:Nat) (hk:65600<k) :
 seal_Open.f k base use s=if smacB base use (s.extract 0 (s.size - 32))=s.extract (s.size - 32) s.size then some (cipB (ckB base use) (s.extract 0 12) (s.extract 12 (s.size - 32)),0) else some (⟨#[]⟩,20):=by
 have hc:=ckB_size base use
 have e:wrap64 ((s.size:Int) - 32)=((s.size - 32:Nat):Int):=by unfold wrap64; omega
 have z1:(s.extract 0 (s.size - 32)).size=s.size - 32:=by simp
 have z2:(s.extract 0 12).size=12:=by simp; omega
 have z3:(s.extract 12 (s.size - 32)).size≤65536:=by simp; omega
 have hm:=smacB_size base use (s.extract 0 (s.size - 32)) (by omega)
 unfold seal_Open.f
 rw [if_neg (by omega),if_neg (by omega),dsum_some base use hb,Option.bind_some,e,if_pos (by omega),if_pos (by omega),Int.toNat_natCast,smac_some base use _ (by omega),Option.bind_some,
  equal_some _ _ (by omega) k (by omega),Option.bind_some]
 by_cases h:smacB base use (s.extract 0 (s.size - 32))=s.extract (s.size - 32) s.size
 case neg =>
  rw [if_neg (by simpa using h),if_neg h]
 rw [if_pos (decide_eq_true h),if_pos h,dcip_some base use hb,Option.bind_some,if_pos (by omega),if_pos (by omega),if_pos (by omega),cipher_some _ _ _ k (by omega) hc z2 (by omega),Option.bind_some]
theorem front_nonce (base:ByteArray) (use:Int) (nonce body e:ByteArray) (hn:nonce.size=12):(frontB base use nonce body++e).extract 0 12=nonce:=by
 unfold frontB
 rw [ByteArray.append_assoc]
 exact app_left _ _ _ (by omega)
theorem front_body (base:ByteArray) (use:Int) (nonce body e:ByteArray) (hn:nonce.size=12) (m:Nat) (hm:m=12+body.size):cipB (ckB base use) nonce ((frontB base use nonce body++e).extract 12 m)=body:=by
 unfold frontB
 rw [app_mid _ _ _ _ _ (by omega) (by rw [cipB_size]; omega),cip_twice]
theorem open_front (base:ByteArray) (use:Int) (nonce body e:ByteArray) (hb:base.size≤100000000) (hn:nonce.size=12) (hs:body.size≤65536) (he:e.size=32) (k:Nat) (hk:65600<k) [Decidable (smacB base use (frontB base use nonce body)=e)] :
 seal_Open.f k base use (frontB base use nonce body++e)=if smacB base use (frontB base use nonce body)=e then some (body,0) else some (⟨#[]⟩,20):=by
 have hf:=frontB_size base use nonce body
 have z:(frontB base use nonce body++e).size=body.size+44:=by rw [ByteArray.size_append]; omega
 have e1:(frontB base use nonce body++e).extract 0 ((frontB base use nonce body++e).size - 32)=frontB base use nonce body:=app_left _ _ _ (by omega)
 have e2:(frontB base use nonce body++e).extract ((frontB base use nonce body++e).size - 32) (frontB base use nonce body++e).size=e:=app_right _ _ _ _ (by omega) (by omega)
 rw [open_some base use _ hb (by omega) (by omega) k hk,e1,e2,front_nonce base use nonce body e hn,front_body base use nonce body e hn _ (by omega)]
 by_cases h:smacB base use (frontB base use nonce body)=e
 case neg =>
  rw [if_neg h,if_neg h]
 rw [if_pos h,if_pos h]
theorem open_seal (base:ByteArray) (use:Int) (nonce body:ByteArray) (hb:base.size≤100000000) (hn:nonce.size=12) (hs:body.size≤65536) (k:Nat) (hk:65600<k) :
 seal_Open.f k base use (sealB base use nonce body)=some (body,0):=by
 classical
 have hf:=frontB_size base use nonce body
 unfold sealB
 rw [open_front base use nonce body _ hb hn hs (smacB_size base use _ (by omega)) k hk,if_pos rfl]
def chkL:ByteArray:=⟨#[99,104,101,99,107]⟩
def bsumB (base:ByteArray) (use:Int) (body:ByteArray):ByteArray:=macB (dkB base use chkL) body
theorem chkL_size:chkL.size=5:=rfl
theorem bsumB_size (base:ByteArray) (use:Int) (body:ByteArray) (h:body.size≤90000000):(bsumB base use body).size=32:=macB_size _ _ h
theorem bsum_some (base:ByteArray) (use:Int) (body:ByteArray) (hb:base.size≤100000000) (h:body.size≤90000000):seal_Sum.f base use body=some (bsumB base use body):=by
 unfold seal_Sum.f
 rw [show (⟨#[99,104,101,99,107]⟩:ByteArray)=chkL from rfl,dkey_some base use chkL hb (by rw [chkL_size]; omega),Option.bind_some,mac_some _ _ (by rw [dkB_size base use chkL (by rw [chkL_size]; omega)]; omega) h]
 rfl
open Classical in
theorem check_some (base:ByteArray) (use:Int) (body sum:ByteArray) (hb:base.size≤100000000) (h:body.size≤90000000) (k:Nat) (hk:32<k):seal_Check.f k base use body sum=if bsumB base use body=sum then some 0 else some 62:=by
 have z:=bsumB_size base use body h
 unfold seal_Check.f
 rw [bsum_some base use body hb h,Option.bind_some,equal_some _ _ (by omega) k (by omega),Option.bind_some]
 by_cases e:bsumB base use body=sum
 case neg =>
  rw [if_neg (by simpa using e),if_neg e]
 rw [if_pos (decide_eq_true e),if_pos e]
def exK:ByteArray:=⟨#[107]⟩
def exX:ByteArray:=⟨#[120]⟩
def exA:ByteArray:=⟨#[97]⟩
def exN:ByteArray:=⟨#[48,49,50,51,52,53,54,55,56,57,97,98]⟩
theorem exK_size:exK.size=1:=rfl
theorem exX_size:exX.size=1:=rfl
theorem exA_size:exA.size=1:=rfl
theorem exN_size:exN.size=12:=rfl
theorem noB_size:noB.size=0:=rfl
theorem noB_list:noB.toList=[]:=by decide +kernel
theorem works07 (k:Nat) (hk:65600<k):legatelaw07_works.f k=some true:=by
 have z:=sealB_size exK 1 exN noB exN_size (by rw [noB_size]; omega)
 rw [noB_size] at z
 unfold legatelaw07_works.f
 rw [show (⟨#[107]⟩:ByteArray)=exK from rfl,show (⟨#[120]⟩:ByteArray)=exX from rfl,show (⟨#[97]⟩:ByteArray)=exA from rfl,show (⟨#[48,49,50,51,52,53,54,55,56,57,97,98]⟩:ByteArray)=exN from rfl,show (⟨#[]⟩:ByteArray)=noB from rfl,
  seal_some exK 1 exN noB (by rw [exK_size]; omega) exN_size (by rw [noB_size]; omega) k (by omega),Option.bind_some,open_seal exK 1 exN noB (by rw [exK_size]; omega) exN_size (by rw [noB_size]; omega) k hk,Option.bind_some,
  open_short exK 1 exX (by rw [exX_size]; omega) k,Option.bind_some,if_pos (by rw [z]; rfl),if_pos rfl,if_pos noB_list,if_pos rfl,if_pos rfl,bsum_some exK 1 exA (by rw [exK_size]; omega) (by rw [exA_size]; omega),Option.bind_some,
  check_some exK 1 exA _ (by rw [exK_size]; omega) (by rw [exA_size]; omega) k (by omega),if_pos rfl]
 rfl
end Go.Proofs.YtkgijkfcmbpgpaaDoor.Giv
end
section
namespace Go.Proofs.YtkgijkfcmbpgpaaDoor.Giv
open Go.RowKit Go.Proofs.YtkgijkfcmbpgpaaDoorW.PrintWords Go.Proofs.YtkgijkfcmbpgpaaDoorW.PrintLast Go.Proofs.YtkgijkfcmbpgpaaDoorW.PrintMore Go.Proofs.YtkgijkfcmbpgpaaDoor.PAll
set_option linter.unusedVariables false
set_option linter.unusedSimpArgs false
def blksB (key nonce:ByteArray) (m:Nat):ByteArray:=⟨(catL (ctrPre key nonce m)).toArray⟩
theorem blksB_size (key nonce:ByteArray) (hn:nonce.size=12) (m:Nat):(blksB key nonce m).size=16 * m:=by
 rw [← data_length]
 show (catL (ctrPre key nonce m)).toArray.toList.length=_
 rw [List.toList_toArray,catL_len key nonce hn]
theorem blksB_succ (key nonce:ByteArray) (m:Nat):blksB key nonce m++ctrBlk key nonce m=blksB key nonce (m+1):=by
 apply ba_ext
 rw [ByteArray.data_append,Array.toList_append]
 show (catL (ctrPre key nonce m)).toArray.toList++_=(catL (ctrPre key nonce (m+1))).toArray.toList
 rw [List.toList_toArray,List.toList_toArray,ctrPre_succ,catL_snoc]
theorem ref_stream_l0 (key nonce:ByteArray) (h1:key.size=16) (h2:nonce.size=12) (n:Nat) (hn:n≤5000):∀ (d m k:Nat),m+d=(n+15) / 16→d+2000<k →
 legateref05_Stream.l0 k sboxL key nonce (n:Int) (blksB key nonce m) (m:Int)=some (streamB key nonce n):=by
 intro d
 induction d with
 | zero =>
  intro m k hm hk
  obtain ⟨k,rfl⟩:∃ j,k=j+1:=⟨k - 1,by omega⟩
  have hz:=blksB_size key nonce h2 m
  rw [legateref05_Stream.l0,if_neg (by omega),if_pos (by omega),if_pos (by omega),Int.toNat_natCast]
  unfold streamB blksB
  rw [show m=(n+15) / 16 from by omega]
 | succ d ih =>
  intro m k hm hk
  obtain ⟨k,rfl⟩:∃ j,k=j+1:=⟨k - 1,by omega⟩
  have hz:=blksB_size key nonce h2 m
  have e:wrap64 ((m:Int)+1)=((m+1:Nat):Int):=by unfold wrap64; omega
  have en:([(wrap64 (Int.tdiv (m:Int) 16777216)) % 256,(wrap64 (Int.tdiv (m:Int) 65536)) % 256,(wrap64 (Int.tdiv (m:Int) 256)) % 256,((m:Int)) % 256]:List Int)=[(m:Int) / 16777216 % 256,(m:Int) / 65536 % 256,(m:Int) / 256 % 256,(m:Int) % 256]:=by
   rw [Int.tdiv_eq_ediv_of_nonneg (by omega),Int.tdiv_eq_ediv_of_nonneg (by omega),Int.tdiv_eq_ediv_of_nonneg (by omega),w64I (x:=(m:Int) / 16777216) (by omega) (by omega),w64I (x:=(m:Int) / 65536) (by omega) (by omega),w64I (x:=(m:Int) / 256) (by omega) (by omega)]
  have hq:=numB_size m
  have hb:=ctrBlk_size key nonce m h2
  have hE:aes_Encrypt.f key (nonce++numB m)=some (ctrBlk key nonce m):=by
   unfold aes_Encrypt.f
   rw [if_pos ⟨h1,by rw [ByteArray.size_append,hq,h2]⟩]
   rfl
  rw [legateref05_Stream.l0,if_pos (by omega),en,Option.bind_some]
  have hN:strOfNums [(m:Int) / 16777216 % 256,(m:Int) / 65536 % 256,(m:Int) / 256 % 256,(m:Int) % 256]=numB m:=rfl
  rw [hN,if_pos (by omega),ref_enc _ _ k (by omega),hE,Option.bind_some,if_pos (by omega),blksB_succ,e]
  exact ih (m+1) k (by omega) (by omega)
theorem ref_stream (key nonce:ByteArray) (n:Int) (hn:n≤5000∨1048576<n) (k:Nat) (hk:3000≤k):legateref05_Stream.f k sboxL key nonce n=ctr_Stream.f key nonce n:=by
 have out:legateref05_Stream.j0 k sboxL key nonce n true=some ⟨#[]⟩:=by
  obtain ⟨k,rfl⟩:∃ j,k=j+1:=⟨k - 1,by omega⟩
  rw [legateref05_Stream.j0,if_pos rfl]
 unfold legateref05_Stream.f
 by_cases h1:key.size=16
 case neg =>
  rw [if_neg (by omega),out,stream_none key nonce n (fun h=>h1 h.1)]
 rw [if_pos (by omega)]
 by_cases h2:nonce.size=12
 case neg =>
  rw [if_neg (by omega),out,stream_none key nonce n (fun h=>h2 h.2)]
 rw [if_pos (by omega)]
 by_cases h3:n<0
 case pos =>
  rw [if_pos h3,out]
  unfold ctr_Stream.f
  rw [if_neg (by omega)]
 rw [if_neg h3]
 by_cases h4:n > 1048576
 case pos =>
  rw [decide_eq_true h4,out]
  unfold ctr_Stream.f
  rw [if_neg (by omega)]
 obtain ⟨m,rfl⟩:∃ m:Nat,n=m:=⟨n.toNat,by omega⟩
 rw [decide_eq_false h4,stream_some key nonce m h1 h2 (by omega)]
 obtain ⟨k,rfl⟩:∃ j,k=j+1:=⟨k - 1,by omega⟩
 rw [legateref05_Stream.j0,if_neg (by simp)]
 have e0:(⟨#[]⟩:ByteArray)=blksB key nonce 0:=rfl
 rw [e0]
 exact ref_stream_l0 key nonce h1 h2 m (by omega) ((m+15) / 16) 0 k (by omega) (by omega)
theorem ref_cip_l0 (s t:ByteArray) (ht:t.size=s.size) (hs:s.size≤100000000):∀ (d m k:Nat),m+d=s.size→d<k →
 legateref05_Cipher.l0 k s t (bl (fun (i:Nat)=>Go.bits .xor .u8 (bt s (i:Int)) (bt t (i:Int))) (List.replicate s.size 0) m) (m:Int)=some (strOfNums (xoL s t)):=by
 intro d
 induction d with
 | zero =>
  intro m k hm hk
  obtain ⟨k,rfl⟩:∃ j,k=j+1:=⟨k - 1,by omega⟩
  obtain hm2:m=s.size:=by omega
  rw [legateref05_Cipher.l0,if_neg (by omega),xoL_bl,hm2]
 | succ d ih =>
  intro m k hm hk
  obtain ⟨k,rfl⟩:∃ j,k=j+1:=⟨k - 1,by omega⟩
  have e:wrap64 ((m:Int)+1)=((m+1:Nat):Int):=by unfold wrap64; omega
  have hr:=rep0_len s.size
  rw [legateref05_Cipher.l0,e,if_pos (by omega),if_pos (by omega),if_pos (by omega),if_pos (by rw [bl_len]; omega),Int.toNat_natCast,bl_set (fun (i:Nat)=>Go.bits .xor .u8 (bt s (i:Int)) (bt t (i:Int)))]
  exact ih (m+1) k (by omega) (by omega)
theorem ref_cipher (key nonce s:ByteArray) (hs:s.size≤5000) (k:Nat) (hk:10000≤k):legateref05_Cipher.f k sboxL key nonce s=ctr_Cipher.f k key nonce s:=by
 unfold legateref05_Cipher.f
 rw [ref_stream key nonce _ (.inl (by omega)) k (by omega)]
 by_cases hv:key.size=16∧nonce.size=12
 case neg =>
  rw [stream_none key nonce _ hv,Option.bind_some,cipher_none key nonce s k (by omega) hv]
  by_cases h0:s.size=0
  case neg =>
   rw [if_neg (by show ¬ ((0:Nat):Int)=_; omega)]
  obtain ⟨k,rfl⟩:∃ j,k=j+1:=⟨k - 1,by omega⟩
  rw [h0,if_pos (by rfl),if_pos (by omega),if_pos (by omega),legateref05_Cipher.l0,if_neg (by omega)]
  rfl
 have ht:=streamB_size key nonce hv.2 s.size
 rw [stream_some key nonce s.size hv.1 hv.2 (by omega),Option.bind_some,if_pos (by omega),if_pos (by omega),if_pos (by omega),Int.toNat_natCast,cipher_some key nonce s k (by omega) hv.1 hv.2 (by omega)]
 have:=ref_cip_l0 s (streamB key nonce s.size) ht (by omega) s.size 0 k (by omega) (by omega)
 rw [bl_zero] at this
 exact this
end Go.Proofs.YtkgijkfcmbpgpaaDoor.Giv
end
section
namespace Go.Proofs.YtkgijkfcmbpgpaaDoor.Giv
open Go.RowKit Go.Proofs.YtkgijkfcmbpgpaaDoorW.PrintWords Go.Proofs.YtkgijkfcmbpgpaaDoorW.PrintLast Go.Proofs.YtkgijkfcmbpgpaaDoorW.PrintMore Go.Proofs.YtkgijkfcmbpgpaaDoor.PSub Go.Proofs.YtkgijkfcmbpgpaaDoor.PAll
set_option linter.unusedVariables false
set_option linter.unusedSimpArgs false
theorem ref_world (k:Nat) (hk:6000≤k):legateref07_New.f k=some (keysL,stB firstL,sboxL):=by
 unfold legateref07_New.f
 rw [ref_new k hk,Option.bind_some,ref_table k (by omega),Option.bind_some]
theorem ref_cip_some (key nonce s:ByteArray) (h1:key.size=16) (h2:nonce.size=12) (hs:s.size≤5000) (k:Nat) (hk:10000≤k):legateref05_Cipher.f k sboxL key nonce s=some (cipB key nonce s):=by
 rw [ref_cipher key nonce s hs k hk,cipher_some key nonce s k (by omega) h1 h2 (by omega)]
theorem ref_smac (base:ByteArray) (use:Int) (s:ByteArray) (h:s.size≤4000) (k:Nat) (hk:1000≤k):legateref03_Tables_Mac.f k keysL (stB firstL) (dkB base use sumL) s=some (smacB base use s) :=
 ref_mac _ _ (by rw [dkS_size]; omega) h k hk
theorem ref_seal (base:ByteArray) (use:Int) (nonce body:ByteArray) (hb:base.size≤5000) (hs:body.size≤3000) (k:Nat) (hk:70000≤k) :
 legateref07_World_Seal.f k keysL (stB firstL) sboxL base use nonce body=seal_Seal.f k base use nonce body:=by
 by_cases hn:nonce.size=12
 case neg =>
  rw [seal_none base use nonce body hn k (by omega)]
  obtain ⟨k,rfl⟩:∃ j,k=j+1:=⟨k - 1,by omega⟩
  unfold legateref07_World_Seal.f
  rw [if_neg (by omega),legateref07_World_Seal.j0,if_pos rfl]
 rw [seal_some base use nonce body (by omega) hn (by omega) k (by omega)]
 obtain ⟨k,rfl⟩:∃ j,k=j+1:=⟨k - 1,by omega⟩
 have hc:=ckB_size base use
 have hf:=frontB_size base use nonce body
 have hm:=smacB_size base use (frontB base use nonce body) (by omega)
 unfold legateref07_World_Seal.f
 rw [if_pos (by omega),decide_eq_false (by omega),legateref07_World_Seal.j0,if_neg (by simp),ref_dcip base use hb k (by omega),Option.bind_some,ref_cip_some _ nonce body hc hn (by omega) k (by omega),Option.bind_some,
  if_pos (by rw [cipB_size]; omega),ref_dsum base use hb k (by omega),Option.bind_some]
 have e:nonce++cipB (ckB base use) nonce body=frontB base use nonce body:=rfl
 rw [e,ref_smac base use _ (by omega) k (by omega),Option.bind_some,if_pos (by omega)]
 rfl
theorem ref_open (base:ByteArray) (use:Int) (s:ByteArray) (hb:base.size≤5000) (hs:s.size≤3000) (k:Nat) (hk:70000≤k) :
 legateref07_World_Open.f k keysL (stB firstL) sboxL base use s=seal_Open.f k base use s:=by
 classical
 by_cases h0:s.size<44
 case pos =>
  rw [open_short base use s h0 k]
  unfold legateref07_World_Open.f
  rw [if_pos (by omega)]
 have hc:=ckB_size base use
 have e:wrap64 ((s.size:Int) - 32)=((s.size - 32:Nat):Int):=by unfold wrap64; omega
 have z1:(s.extract 0 (s.size - 32)).size=s.size - 32:=by simp
 have z2:(s.extract 0 12).size=12:=by simp; omega
 have z3:(s.extract 12 (s.size - 32)).size≤3000:=by simp; omega
 rw [open_some base use s (by omega) (by omega) (by omega) k (by omega)]
 unfold legateref07_World_Open.f
 rw [if_neg (by omega),if_neg (by omega),ref_dsum base use hb k (by omega),Option.bind_some,e,if_pos (by omega),if_pos (by omega),Int.toNat_natCast,ref_smac base use _ (by omega) k (by omega),Option.bind_some]
 by_cases h:smacB base use (s.extract 0 (s.size - 32))=s.extract (s.size - 32) s.size
 case neg =>
  rw [if_neg (fun q=>h (toList_inj q)),if_neg h]
 rw [if_pos (by rw [h]),if_pos h,ref_dcip base use hb k (by omega),Option.bind_some,if_pos (by omega),if_pos (by omega),if_pos (by omega),ref_cip_some _ _ _ hc z2 (by omega) k (by omega),Option.bind_some]
end Go.Proofs.YtkgijkfcmbpgpaaDoor.Giv
end
section
namespace Go.Proofs.YtkgijkfcmbpgpaaDoor.Pure
open Go.RowKit Go.Proofs.YtkgijkfcmbpgpaaDoor.PAll Go.Proofs.YtkgijkfcmbpgpaaDoorW.PrintWords Go.Proofs.YtkgijkfcmbpgpaaDoorW.PrintLast
open Go.Proofs.YtkgijkfcmbpgpaaDoor.Giv
set_option linter.unusedVariables false
set_option linter.unusedSimpArgs false
theorem seals_out (k:Nat) (a:ByteArray) (n:Int) (c s t:ByteArray):legatelaw07_SealSeals.j0 (k+1) a n c s t true true=some true:=by
 rw [legatelaw07_SealSeals.j0,if_pos rfl]
theorem seals_in (k:Nat) (hk:70000≤k) (a:ByteArray) (n:Int) (c s t:ByteArray) (ha:a.size≤200) (hs:s.size≤200) (ht:t.size≤200):legatelaw07_SealSeals.j0 (k+1) a n c s t true false=some true:=by
 classical
 obtain ⟨r,hr⟩:∃ r,seal_Seal.f k a n c s=some r:=by
  by_cases hc:c.size=12
  case neg =>
   exact ⟨_,seal_none a n c s hc k (by omega)⟩
  exact ⟨_,seal_some a n c s (by omega) hc (by omega) k (by omega)⟩
 obtain ⟨q,hq⟩:∃ q,seal_Open.f k a n t=some q:=by
  by_cases h0:t.size<44
  case pos =>
   exact ⟨_,open_short a n t h0 k⟩
  rw [open_some a n t (by omega) (by omega) (by omega) k (by omega)]
  split
  ·exact ⟨_,rfl⟩
  ·exact ⟨_,rfl⟩
 rw [legatelaw07_SealSeals.j0,if_neg (by simp),ref_world k (by omega),Option.bind_some]
 show ((seal_Seal.f k a n c s).bind fun bt518=>((legateref07_World_Seal.f k keysL (stB firstL) sboxL a n c s).bind fun bt520=>((seal_Open.f k a n t).bind fun bt522=>((legateref07_World_Open.f k keysL (stB firstL) sboxL a n t).bind fun bt524=>_))))=some true
 rw [ref_seal a n c s (by omega) (by omega) k hk,ref_open a n t (by omega) (by omega) k hk,hr,hq,Option.bind_some,Option.bind_some,Option.bind_some,Option.bind_some]
 simp
theorem SealSeals:legatelaw07_SealSeals.Pure:=by
 intro a n c s t _ _ _ _ _
 refine ⟨70000+1,?_⟩
 generalize hk:70000=k
 unfold legatelaw07_SealSeals.f
 rw [works07 _ (by omega),Option.bind_some,if_pos rfl]
 by_cases h1:(a.size:Int) > 200
 ·rw [if_pos h1]; exact seals_out k a n c s t
 rw [if_neg h1]
 by_cases h2:(s.size:Int) > 200
 ·rw [if_pos h2]; exact seals_out k a n c s t
 rw [if_neg h2]
 by_cases h3:(t.size:Int) > 200
 case pos =>
  rw [decide_eq_true h3]; exact seals_out k a n c s t
 rw [decide_eq_false h3]; exact seals_in k (by omega) a n c s t (by omega) (by omega) (by omega)
end Go.Proofs.YtkgijkfcmbpgpaaDoor.Pure
end
