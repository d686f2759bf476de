import Derived.Test.YtkgijkfcmbpgpaaDoorS2b0
import Derived.Test.YtkgijkfcmbpgpaaDoorS2b1
import Derived.Test.YtkgijkfcmbpgpaaDoorS2b16
import Derived.Test.YtkgijkfcmbpgpaaDoorS2b17
import Derived.Test.YtkgijkfcmbpgpaaDoorS2b2
import Derived.Test.YtkgijkfcmbpgpaaDoorS2b25
import Derived.Test.YtkgijkfcmbpgpaaDoorS2b8
section
namespace Go.Proofs.YtkgijkfcmbpgpaaDoor.Giv
open Go.RowKit Go.Proofs.YtkgijkfcmbpgpaaDoorW.PrintWords Go.Proofs.YtkgijkfcmbpgpaaDoorW.PrintLast Go.Proofs.YtkgijkfcmbpgpaaDoorW.PrintMore Go.Proofs.YtkgijkfcmbpgpaaDoor.PSub
theorem w64 {x:Int} (h0:0≤x) (h1:x<9223372036854775808):wrap64 x=x:=by unfold wrap64; omega
theorem td {x:Int} (h0:0≤x) (d:Int):Int.tdiv x d=x / d:=Int.tdiv_eq_ediv_of_nonneg h0
theorem tm {x:Int} (h0:0≤x) (d:Int):Int.tmod x d=x % d:=Int.tmod_eq_emod_of_nonneg h0
theorem ofInt_i64 (a:Nat) (ha:a<18446744073709551616):(BitVec.ofInt 64 (a:Int)).toNat=a:=by
 rw [BitVec.ofInt_natCast,BitVec.toNat_ofNat]; exact Nat.mod_eq_of_lt (by omega)
theorem i64_xor32 (a b:Int) (ha:W32 a) (hb:W32 b):Go.bits .xor .i64 a b=Go.bits .xor .u32 a b:=by
 rw [u32_xor a b ha.1 ha.2 hb.1 hb.2]
 obtain ⟨A,rfl⟩:=Int.eq_ofNat_of_zero_le ha.1
 obtain ⟨B,rfl⟩:=Int.eq_ofNat_of_zero_le hb.1
 have h1:=ha.2
 have h2:=hb.2
 have hx:A ^^^ B<2 ^ 32:=Nat.xor_lt_two_pow (by omega) (by omega)
 show IntKind.i64.wrap ((BitVec.ofInt 64 (A:Int) ^^^ BitVec.ofInt 64 (B:Int)).toNat:Int)=_
 rw [BitVec.toNat_xor,ofInt_i64 A (by omega),ofInt_i64 B (by omega),IntWalk.i64_in _ (by omega)]
 simp
theorem i64_and32 (a b:Int) (ha:W32 a) (hb:W32 b):Go.bits .and .i64 a b=Go.bits .and .u32 a b:=by
 rw [u32_and a b ha.1 ha.2 hb.1 hb.2]
 obtain ⟨A,rfl⟩:=Int.eq_ofNat_of_zero_le ha.1
 obtain ⟨B,rfl⟩:=Int.eq_ofNat_of_zero_le hb.1
 have h1:=ha.2
 have h2:=hb.2
 have hx:A &&& B<2 ^ 32:=Nat.and_lt_two_pow _ (by omega)
 show IntKind.i64.wrap ((BitVec.ofInt 64 (A:Int) &&& BitVec.ofInt 64 (B:Int)).toNat:Int)=_
 rw [BitVec.toNat_and,ofInt_i64 A (by omega),ofInt_i64 B (by omega),IntWalk.i64_in _ (by omega)]
 simp
theorem xor_w (a b:Int) (ha:W32 a) (hb:W32 b):W32 (Go.bits .xor .u32 a b):=by
 rw [u32_xor a b ha.1 ha.2 hb.1 hb.2]
 have h1:=ha.2
 have h2:=hb.2
 have:=Nat.xor_lt_two_pow (n:=32) (show a.toNat<2 ^ 32 by have:=ha.1; omega) (show b.toNat<2 ^ 32 by have:=hb.1; omega)
 unfold W32; omega
theorem and_w (a b:Int) (ha:W32 a) (hb:W32 b):W32 (Go.bits .and .u32 a b):=by
 rw [u32_and a b ha.1 ha.2 hb.1 hb.2]
 have h1:=ha.2
 have h2:=hb.2
 have:=Nat.and_lt_two_pow (n:=32) a.toNat (show b.toNat<2 ^ 32 by have:=hb.1; omega)
 unfold W32; omega
theorem not_32 (e:Int) (h:W32 e):Go.bits .xor .u32 (if IntKind.u32.signed=true then -1 else IntKind.u32.max) e=4294967295 - e:=by
 have e0:(if IntKind.u32.signed=true then (-1:Int) else IntKind.u32.max)=4294967295:=rfl
 rw [e0,u32_xor _ e (by omega) (by omega) h.1 h.2]
 obtain ⟨E,rfl⟩:=Int.eq_ofNat_of_zero_le h.1
 have h2:=h.2
 have e1:(BitVec.allOnes 32 ^^^ BitVec.ofNat 32 E).toNat=(~~~ BitVec.ofNat 32 E).toNat:=by rw [BitVec.allOnes_xor]
 rw [BitVec.toNat_xor,BitVec.toNat_not,BitVec.toNat_allOnes,BitVec.toNat_ofNat,Nat.mod_eq_of_lt (by omega)] at e1
 have e2:(4294967295:Int).toNat ^^^ ((E:Nat):Int).toNat=4294967295 - E:=by
  simp only [Int.toNat_natCast]
  simpa using e1
 rw [e2]
 omega
theorem not_w (e:Int) (h:W32 e):W32 (4294967295 - e):=by unfold W32 at h ⊢; omega
theorem rr_2 (x:Int) (h:W32 x):rr x 2=turnZ x 2:=by
 have e0:rr x 2=Go.bits .or .u32 ((x * 1073741824) % 4294967296) (x / 4):=by kernel_rfl
 have h1:(x * 1073741824) % 4294967296=x % 4 * 1073741824:=by omega
 unfold W32 at h
 rw [e0,h1,or_join (x % 4 * 1073741824) (x / 4) 30 1073741824 (by decide) (by unfold W32; omega) (by unfold W32; omega) (by omega) (by omega)]
 simp only [turnZ,Int.reducePow,Nat.reduceSub]
 omega
theorem rr_6 (x:Int) (h:W32 x):rr x 6=turnZ x 6:=by
 have e0:rr x 6=Go.bits .or .u32 ((x * 67108864) % 4294967296) (x / 64):=by kernel_rfl
 have h1:(x * 67108864) % 4294967296=x % 64 * 67108864:=by omega
 unfold W32 at h
 rw [e0,h1,or_join (x % 64 * 67108864) (x / 64) 26 67108864 (by decide) (by unfold W32; omega) (by unfold W32; omega) (by omega) (by omega)]
 simp only [turnZ,Int.reducePow,Nat.reduceSub]
 omega
theorem rr_7 (x:Int) (h:W32 x):rr x 7=turnZ x 7:=by
 have e0:rr x 7=Go.bits .or .u32 ((x * 33554432) % 4294967296) (x / 128):=by kernel_rfl
 have h1:(x * 33554432) % 4294967296=x % 128 * 33554432:=by omega
 unfold W32 at h
 rw [e0,h1,or_join (x % 128 * 33554432) (x / 128) 25 33554432 (by decide) (by unfold W32; omega) (by unfold W32; omega) (by omega) (by omega)]
 simp only [turnZ,Int.reducePow,Nat.reduceSub]
 omega
theorem rr_11 (x:Int) (h:W32 x):rr x 11=turnZ x 11:=by
 have e0:rr x 11=Go.bits .or .u32 ((x * 2097152) % 4294967296) (x / 2048):=by kernel_rfl
 have h1:(x * 2097152) % 4294967296=x % 2048 * 2097152:=by omega
 unfold W32 at h
 rw [e0,h1,or_join (x % 2048 * 2097152) (x / 2048) 21 2097152 (by decide) (by unfold W32; omega) (by unfold W32; omega) (by omega) (by omega)]
 simp only [turnZ,Int.reducePow,Nat.reduceSub]
 omega
theorem rr_13 (x:Int) (h:W32 x):rr x 13=turnZ x 13:=by
 have e0:rr x 13=Go.bits .or .u32 ((x * 524288) % 4294967296) (x / 8192):=by kernel_rfl
 have h1:(x * 524288) % 4294967296=x % 8192 * 524288:=by omega
 unfold W32 at h
 rw [e0,h1,or_join (x % 8192 * 524288) (x / 8192) 19 524288 (by decide) (by unfold W32; omega) (by unfold W32; omega) (by omega) (by omega)]
 simp only [turnZ,Int.reducePow,Nat.reduceSub]
 omega
theorem rr_17 (x:Int) (h:W32 x):rr x 17=turnZ x 17:=by
 have e0:rr x 17=Go.bits .or .u32 ((x * 32768) % 4294967296) (x / 131072):=by kernel_rfl
 have h1:(x * 32768) % 4294967296=x % 131072 * 32768:=by omega
 unfold W32 at h
 rw [e0,h1,or_join (x % 131072 * 32768) (x / 131072) 15 32768 (by decide) (by unfold W32; omega) (by unfold W32; omega) (by omega) (by omega)]
 simp only [turnZ,Int.reducePow,Nat.reduceSub]
 omega
theorem rr_18 (x:Int) (h:W32 x):rr x 18=turnZ x 18:=by
 have e0:rr x 18=Go.bits .or .u32 ((x * 16384) % 4294967296) (x / 262144):=by kernel_rfl
 have h1:(x * 16384) % 4294967296=x % 262144 * 16384:=by omega
 unfold W32 at h
 rw [e0,h1,or_join (x % 262144 * 16384) (x / 262144) 14 16384 (by decide) (by unfold W32; omega) (by unfold W32; omega) (by omega) (by omega)]
 simp only [turnZ,Int.reducePow,Nat.reduceSub]
 omega
theorem rr_19 (x:Int) (h:W32 x):rr x 19=turnZ x 19:=by
 have e0:rr x 19=Go.bits .or .u32 ((x * 8192) % 4294967296) (x / 524288):=by kernel_rfl
 have h1:(x * 8192) % 4294967296=x % 524288 * 8192:=by omega
 unfold W32 at h
 rw [e0,h1,or_join (x % 524288 * 8192) (x / 524288) 13 8192 (by decide) (by unfold W32; omega) (by unfold W32; omega) (by omega) (by omega)]
 simp only [turnZ,Int.reducePow,Nat.reduceSub]
 omega
theorem rr_22 (x:Int) (h:W32 x):rr x 22=turnZ x 22:=by
 have e0:rr x 22=Go.bits .or .u32 ((x * 1024) % 4294967296) (x / 4194304):=by kernel_rfl
 have h1:(x * 1024) % 4294967296=x % 4194304 * 1024:=by omega
 unfold W32 at h
 rw [e0,h1,or_join (x % 4194304 * 1024) (x / 4194304) 10 1024 (by decide) (by unfold W32; omega) (by unfold W32; omega) (by omega) (by omega)]
 simp only [turnZ,Int.reducePow,Nat.reduceSub]
 omega
theorem rr_25 (x:Int) (h:W32 x):rr x 25=turnZ x 25:=by
 have e0:rr x 25=Go.bits .or .u32 ((x * 128) % 4294967296) (x / 33554432):=by kernel_rfl
 have h1:(x * 128) % 4294967296=x % 33554432 * 128:=by omega
 unfold W32 at h
 rw [e0,h1,or_join (x % 33554432 * 128) (x / 33554432) 7 128 (by decide) (by unfold W32; omega) (by unfold W32; omega) (by omega) (by omega)]
 simp only [turnZ,Int.reducePow,Nat.reduceSub]
 omega
theorem turn_2 (x:Int) (h:W32 x):legateref02_turn.f x 2=some (rr x 2):=by
 rw [rr_2 x h]
 unfold W32 at h
 unfold legateref02_turn.f
 rw [if_pos ⟨h.1,h.2,by omega⟩]
 rfl
theorem rr_w_2 (x:Int) (h:W32 x):W32 (rr x 2):=by
 rw [rr_2 x h]
 unfold W32 at h ⊢
 simp only [turnZ,Int.reducePow,Nat.reduceSub]
 omega
theorem turn_6 (x:Int) (h:W32 x):legateref02_turn.f x 6=some (rr x 6):=by
 rw [rr_6 x h]
 unfold W32 at h
 unfold legateref02_turn.f
 rw [if_pos ⟨h.1,h.2,by omega⟩]
 rfl
theorem rr_w_6 (x:Int) (h:W32 x):W32 (rr x 6):=by
 rw [rr_6 x h]
 unfold W32 at h ⊢
 simp only [turnZ,Int.reducePow,Nat.reduceSub]
 omega
theorem turn_7 (x:Int) (h:W32 x):legateref02_turn.f x 7=some (rr x 7):=by
 rw [rr_7 x h]
 unfold W32 at h
 unfold legateref02_turn.f
 rw [if_pos ⟨h.1,h.2,by omega⟩]
 rfl
theorem rr_w_7 (x:Int) (h:W32 x):W32 (rr x 7):=by
 rw [rr_7 x h]
 unfold W32 at h ⊢
 simp only [turnZ,Int.reducePow,Nat.reduceSub]
 omega
theorem turn_11 (x:Int) (h:W32 x):legateref02_turn.f x 11=some (rr x 11):=by
 rw [rr_11 x h]
 unfold W32 at h
 unfold legateref02_turn.f
 rw [if_pos ⟨h.1,h.2,by omega⟩]
 rfl
theorem rr_w_11 (x:Int) (h:W32 x):W32 (rr x 11):=by
 rw [rr_11 x h]
 unfold W32 at h ⊢
 simp only [turnZ,Int.reducePow,Nat.reduceSub]
 omega
theorem turn_13 (x:Int) (h:W32 x):legateref02_turn.f x 13=some (rr x 13):=by
 rw [rr_13 x h]
 unfold W32 at h
 unfold legateref02_turn.f
 rw [if_pos ⟨h.1,h.2,by omega⟩]
 rfl
theorem rr_w_13 (x:Int) (h:W32 x):W32 (rr x 13):=by
 rw [rr_13 x h]
 unfold W32 at h ⊢
 simp only [turnZ,Int.reducePow,Nat.reduceSub]
 omega
theorem turn_17 (x:Int) (h:W32 x):legateref02_turn.f x 17=some (rr x 17):=by
 rw [rr_17 x h]
 unfold W32 at h
 unfold legateref02_turn.f
 rw [if_pos ⟨h.1,h.2,by omega⟩]
 rfl
theorem rr_w_17 (x:Int) (h:W32 x):W32 (rr x 17):=by
 rw [rr_17 x h]
 unfold W32 at h ⊢
 simp only [turnZ,Int.reducePow,Nat.reduceSub]
 omega
theorem turn_18 (x:Int) (h:W32 x):legateref02_turn.f x 18=some (rr x 18):=by
 rw [rr_18 x h]
 unfold W32 at h
 unfold legateref02_turn.f
 rw [if_pos ⟨h.1,h.2,by omega⟩]
 rfl
theorem rr_w_18 (x:Int) (h:W32 x):W32 (rr x 18):=by
 rw [rr_18 x h]
 unfold W32 at h ⊢
 simp only [turnZ,Int.reducePow,Nat.reduceSub]
 omega
theorem turn_19 (x:Int) (h:W32 x):legateref02_turn.f x 19=some (rr x 19):=by
 rw [rr_19 x h]
 unfold W32 at h
 unfold legateref02_turn.f
 rw [if_pos ⟨h.1,h.2,by omega⟩]
 rfl
theorem rr_w_19 (x:Int) (h:W32 x):W32 (rr x 19):=by
 rw [rr_19 x h]
 unfold W32 at h ⊢
 simp only [turnZ,Int.reducePow,Nat.reduceSub]
 omega
theorem turn_22 (x:Int) (h:W32 x):legateref02_turn.f x 22=some (rr x 22):=by
 rw [rr_22 x h]
 unfold W32 at h
 unfold legateref02_turn.f
 rw [if_pos ⟨h.1,h.2,by omega⟩]
 rfl
theorem rr_w_22 (x:Int) (h:W32 x):W32 (rr x 22):=by
 rw [rr_22 x h]
 unfold W32 at h ⊢
 simp only [turnZ,Int.reducePow,Nat.reduceSub]
 omega
theorem turn_25 (x:Int) (h:W32 x):legateref02_turn.f x 25=some (rr x 25):=by
 rw [rr_25 x h]
 unfold W32 at h
 unfold legateref02_turn.f
 rw [if_pos ⟨h.1,h.2,by omega⟩]
 rfl
theorem rr_w_25 (x:Int) (h:W32 x):W32 (rr x 25):=by
 rw [rr_25 x h]
 unfold W32 at h ⊢
 simp only [turnZ,Int.reducePow,Nat.reduceSub]
 omega
end Go.Proofs.YtkgijkfcmbpgpaaDoor.Giv
namespace Go.Proofs.YtkgijkfcmbpgpaaDoor.Giv
open Go.RowKit Go.Proofs.YtkgijkfcmbpgpaaDoorW.PrintWords Go.Proofs.YtkgijkfcmbpgpaaDoorW.PrintLast Go.Proofs.YtkgijkfcmbpgpaaDoorW.PrintMore Go.Proofs.YtkgijkfcmbpgpaaDoor.PSub Go.Proofs.YtkgijkfcmbpgpaaDoor.PAll
theorem zero_w:W32 0:=by unfold W32; omega
theorem getD_w {L:List Int} (h:∀ x∈L,W32 x) (i:Nat):W32 (L.getD i 0):=by
 by_cases hi:i<L.length
 case neg =>
  rw [List.getD_eq_getElem?_getD,List.getElem?_eq_none (by omega)]
  exact zero_w
 rw [List.getD_eq_getElem?_getD,List.getElem?_eq_getElem hi]
 exact h _ (List.getElem_mem hi)
theorem set_w {L:List Int} (h:∀ x∈L,W32 x) (i:Nat) {y:Int} (hy:W32 y):∀ x∈L.set i y,W32 x:=by
 intro x hx
 rcases List.mem_or_eq_of_mem_set hx with h1|h1
 ·exact h x h1
 ·rw [h1]; exact hy
def wdL (s:ByteArray) (n:Nat):List Int:=(List.range n).map (wordAt s)
theorem wdL_len (s:ByteArray) (n:Nat):(wdL s n).length=n:=by simp [wdL]
theorem wdL_succ (s:ByteArray) (n:Nat):wdL s (n+1)=wdL s n++[wordAt s n]:=by simp [wdL,List.range_succ]
theorem wdL_words (s:ByteArray) (n:Nat):wdL s n=wordsTo s n n:=by
 unfold wdL wordsTo
 apply List.map_congr_left
 intro i hi
 rw [if_pos (List.mem_range.1 hi)]
theorem word64 (b0 b1 b2 b3:Int) (h0:0≤b0∧b0<256) (h1:0≤b1∧b1<256) (h2:0≤b2∧b2<256) (h3:0≤b3∧b3<256) :
 wrap64 ((wrap64 ((wrap64 ((wrap64 ((wrap64 b0) * 16777216))+(wrap64 ((wrap64 b1) * 65536))))+(wrap64 ((wrap64 b2) * 256))))+(wrap64 b3))=b0 * 16777216+b1 * 65536+b2 * 256+b3:=by
 rw [w64 (x:=b0) (by omega) (by omega),w64 (x:=b1) (by omega) (by omega),w64 (x:=b2) (by omega) (by omega),w64 (x:=b3) (by omega) (by omega),
  w64 (x:=b0 * 16777216) (by omega) (by omega),w64 (x:=b1 * 65536) (by omega) (by omega),w64 (x:=b2 * 256) (by omega) (by omega),w64 (x:=b0 * 16777216+b1 * 65536) (by omega) (by omega),w64 (x:=b0 * 16777216+b1 * 65536+b2 * 256) (by omega) (by omega),w64 (by omega) (by omega)]
theorem ref_words_l0 (s:ByteArray) (n:Nat) (hs:s.size=4 * n) (hn:n≤1000):∀ (d m k:Nat),m+d=n→d<k →
 legateref02_words.l0 k s (wdL s m) ((4 * m:Nat):Int)=some (wdL s n):=by
 intro d
 induction d with
 | zero =>
  intro m k hm hk
  obtain ⟨k,rfl⟩:∃ j,k=j+1:=⟨k - 1,by omega⟩
  obtain rfl:m=n:=by omega
  have e:wrap64 (((4 * m:Nat):Int)+3)=((4 * m+3:Nat):Int):=by unfold wrap64; omega
  rw [legateref02_words.l0,e,if_neg (by omega)]
 | succ d ih =>
  intro m k hm hk
  obtain ⟨k,rfl⟩:∃ j,k=j+1:=⟨k - 1,by omega⟩
  have e1:wrap64 (((4 * m:Nat):Int)+1)=((4 * m+1:Nat):Int):=by unfold wrap64; omega
  have e2:wrap64 (((4 * m:Nat):Int)+2)=((4 * m+2:Nat):Int):=by unfold wrap64; omega
  have e3:wrap64 (((4 * m:Nat):Int)+3)=((4 * m+3:Nat):Int):=by unfold wrap64; omega
  have e4:wrap64 (((4 * m:Nat):Int)+4)=((4 * (m+1):Nat):Int):=by unfold wrap64; omega
  rw [legateref02_words.l0,e1,e2,e3,e4,if_pos (by omega),if_pos (by omega),if_pos (by omega),if_pos (by omega),if_pos (by omega),if_pos (by omega),if_pos (by omega),if_pos (by omega),if_pos (by rw [wdL_len]; omega),
   word64 _ _ _ _ (bt_byte _ _) (bt_byte _ _) (bt_byte _ _) (bt_byte _ _),← wordAt_val s m (by omega),← wdL_succ]
  exact ih (m+1) k (by omega) (by omega)
theorem ref_words (s:ByteArray) (n:Nat) (hs:s.size=4 * n) (hn:n≤1000) (k:Nat) (hk:n<k):legateref02_words.f k s=some (wordsTo s n n):=by
 rw [← wdL_words]
 exact ref_words_l0 s n hs hn n 0 k (by omega) hk
theorem words_w (s:ByteArray) (n k:Nat) (h:4 * k≤s.size):∀ x∈wordsTo s n k,W32 x:=by
 intro x hx
 obtain ⟨i,_,rfl⟩:=List.mem_map.1 hx
 show W32 (if i<k then wordAt s i else 0)
 split
 ·exact wordAt_w32 s i (by omega)
 ·exact zero_w
theorem ref_bytes_l0 (l:List Int) (hl:l.length=8) (hw:∀ x∈l,W32 x):∀ (d m k:Nat),m+d=8→d<k →
 legateref02_bytes.l0 k l (strOfNums (textTo l m)) (m:Int)=some (strOfNums (textTo l 8)):=by
 intro d
 induction d with
 | zero =>
  intro m k hm hk
  obtain ⟨k,rfl⟩:∃ j,k=j+1:=⟨k - 1,by omega⟩
  obtain rfl:m=8:=by omega
  rw [legateref02_bytes.l0,hl,if_neg (by omega)]
 | succ d ih =>
  intro m k hm hk
  obtain ⟨k,rfl⟩:∃ j,k=j+1:=⟨k - 1,by omega⟩
  have e:wrap64 ((m:Int)+1)=((m+1:Nat):Int):=by unfold wrap64; omega
  have hx:=getD_w hw m
  have er:rd l (m:Int)=l.getD m 0:=by unfold rd; rw [Int.toNat_natCast]
  have eb:([(wrap64 (Int.tdiv (rd l m) 16777216)) % 256,(Int.tmod (wrap64 (Int.tdiv (rd l m) 65536)) 256) % 256,(Int.tmod (wrap64 (Int.tdiv (rd l m) 256)) 256) % 256,(Int.tmod (rd l m) 256) % 256]:List Int)=wordBytes (l.getD m 0):=by
   rw [er]
   unfold W32 at hx
   rw [td (by omega),td (by omega),td (by omega),w64 (by omega) (by omega),w64 (by omega) (by omega),w64 (by omega) (by omega),tm (by omega),tm (by omega),tm (by omega)]
   unfold wordBytes
   congr 1
   congr 1
   ·omega
   ·congr 1
    ·omega
    ·congr 1
     omega
  have hz:(strOfNums (textTo l m)).size=4 * m:=by rw [size_strOfNums,textTo_len l m (by omega)]
  have hz2:(strOfNums (wordBytes (l.getD m 0))).size=4:=by rw [size_strOfNums]; rfl
  rw [legateref02_bytes.l0,if_pos (by omega),if_pos (by omega),eb]
  simp only [Option.bind_some]
  rw [if_pos (by omega),← str_append,← textTo_succ l m (by omega),e]
  exact ih (m+1) k (by omega) (by omega)
theorem ref_bytes (l:List Int) (hl:l.length=8) (hw:∀ x∈l,W32 x) (k:Nat) (hk:8<k):legateref02_bytes.f k l=some (strOfNums (textTo l 8)) :=
 ref_bytes_l0 l hl hw 8 0 k (by omega) hk
theorem addTo_w {R v:List Int} (hR:∀ x∈R,W32 x):∀ i,∀ x∈addTo R v i,W32 x
 | 0=>hR
 | i+1=>set_w (addTo_w hR i) i (mod_w32 _)
theorem ref_l2 (R v:List Int) (hR:R.length=8) (hRw:∀ x∈R,W32 x) (hv:v.length=8) (hvw:∀ x∈v,W32 x):∀ (d m k:Nat),m+d=8→d+10<k →
 legateref02_Block.l2 k v (addTo R v m) (m:Int)=some (strOfNums (textTo (addTo R v 8) 8)):=by
 intro d
 induction d with
 | zero =>
  intro m k hm hk
  obtain ⟨k,rfl⟩:∃ j,k=j+1:=⟨k - 1,by omega⟩
  obtain rfl:m=8:=by omega
  rw [legateref02_Block.l2,if_neg (by omega),ref_bytes _ (by rw [addTo_len,hR]) (addTo_w hRw 8) k (by omega)]
  rfl
 | succ d ih =>
  intro m k hm hk
  obtain ⟨k,rfl⟩:∃ j,k=j+1:=⟨k - 1,by omega⟩
  have e:wrap64 ((m:Int)+1)=((m+1:Nat):Int):=by unfold wrap64; omega
  have hx:=getD_w (addTo_w (v:=v) hRw m) m
  have hy:=getD_w hvw m
  have er:rd (addTo R v m) (m:Int)=(addTo R v m).getD m 0:=by unfold rd; rw [Int.toNat_natCast]
  have er2:rd v (m:Int)=v.getD m 0:=by unfold rd; rw [Int.toNat_natCast]
  unfold W32 at hx hy
  rw [legateref02_Block.l2,if_pos (by omega),if_pos (by omega),if_pos (by rw [addTo_len]; omega),if_pos (by omega),er,er2,w64 (x:=(addTo R v m).getD m 0+v.getD m 0) (by omega) (by omega),tm (by omega),Int.toNat_natCast,e]
  exact ih (m+1) k (by omega) (by omega)
theorem keysL_w:∀ x∈keysL,W32 x:=by
 intro x hx
 have h:keysL.all (fun x=>decide (0≤x) && decide (x<4294967296))=true:=by kernel_rfl
 have:=List.all_eq_true.1 h x hx
 simp only [Bool.and_eq_true,decide_eq_true_eq] at this
 exact this
theorem sprTo_w (s:ByteArray) (hs:s.size=64):∀ j,∀ x∈sprTo s j,W32 x
 | 0=>words_w s 64 16 (by omega)
 | j+1=>set_w (sprTo_w s hs j) _ (by
  show W32 ((_:Int) % 4294967296)
  exact mod_w32 _)
theorem list8_w {l:List Int} (h:l.length=8) (hw:∀ x∈l,W32 x):∃ a b c d e f g i,l=[a,b,c,d,e,f,g,i]∧W32 a∧W32 b∧W32 c∧W32 d∧W32 e∧W32 f∧W32 g∧W32 i:=by
 obtain ⟨a,b,c,d,e,f,g,i,rfl⟩:=list8 h
 simp only [List.mem_cons,List.not_mem_nil,or_false] at hw
 exact ⟨a,b,c,d,e,f,g,i,rfl,hw a (by simp),hw b (by simp),hw c (by simp),hw d (by simp),hw e (by simp),hw f (by simp),hw g (by simp),hw i (by simp)⟩
theorem rounds_w (s:ByteArray) (v:List Int) (hv:v.length=8) (hw:∀ x∈v,W32 x):∀ k,∀ x∈rounds s v k,W32 x
 | 0=>hw
 | k+1=>by
  obtain ⟨a,b,c,d,e,f,g,i,hl,ha,hb,hc,hd,he,hf,hg,hi⟩:=list8_w (rounds_len s v hv k) (rounds_w s v hv hw k)
  intro x hx
  have h:rounds s v (k+1)=bStep (rounds s v k) (keysL.getD k 0) ((sprTo s 48).getD k 0):=rfl
  rw [h,hl] at hx
  simp only [bStep,List.mem_cons,List.not_mem_nil,or_false] at hx
  rcases hx with rfl|rfl|rfl|rfl|rfl|rfl|rfl|rfl
  ·exact mod_w32 _
  ·exact ha
  ·exact hb
  ·exact hc
  ·exact mod_w32 _
  ·exact he
  ·exact hf
  ·exact hg
theorem ref_X (p kk ww X C:Int) (hp:W32 p) (hkk:W32 kk) (hww:W32 ww) (hX:W32 X) (hC:W32 C) :
 Int.tmod (wrap64 ((wrap64 ((wrap64 ((wrap64 (p+X))+C))+kk))+ww)) 4294967296=((p+X+C+kk) % 4294967296+ww) % 4294967296:=by
 unfold W32 at *
 rw [w64 (x:=p+X) (by omega) (by omega),w64 (x:=p+X+C) (by omega) (by omega),w64 (x:=p+X+C+kk) (by omega) (by omega),w64 (by omega) (by omega),tm (by omega)]
 omega
theorem ref_two (x y:Int) (hx:W32 x) (hy:W32 y):Int.tmod (wrap64 (x+y)) 4294967296=(x+y) % 4294967296:=by
 unfold W32 at *
 rw [w64 (by omega) (by omega),tm (by omega)]
end Go.Proofs.YtkgijkfcmbpgpaaDoor.Giv
namespace Go.Proofs.YtkgijkfcmbpgpaaDoor.Giv
open Go.RowKit Go.Proofs.YtkgijkfcmbpgpaaDoorW.PrintWords Go.Proofs.YtkgijkfcmbpgpaaDoorW.PrintLast Go.Proofs.YtkgijkfcmbpgpaaDoorW.PrintMore Go.Proofs.YtkgijkfcmbpgpaaDoor.PSub Go.Proofs.YtkgijkfcmbpgpaaDoor.PAll
set_option linter.unusedVariables false
set_option linter.unusedSimpArgs false
theorem rd_nat (L:List Int) (i:Nat):rd L (i:Int)=L.getD i 0:=by unfold rd; rw [Int.toNat_natCast]
theorem ref_l1_step (blk:ByteArray) (hb:blk.size=64) (v:List Int) (hv:v.length=8) (hvw:∀ x∈v,W32 x) (k t:Nat) (ht:t<64) :
 legateref02_Block.l1 (k+1) keysL (sprTo blk 48) v (rounds blk v t) (t:Int)=legateref02_Block.l1 k keysL (sprTo blk 48) v (rounds blk v (t+1)) ((t+1:Nat):Int):=by
 have h1:rounds blk v (t+1)=bStep (rounds blk v t) (keysL.getD t 0) ((sprTo blk 48).getD t 0):=rfl
 obtain ⟨a,b,c,d,e,f,g,p,hl,ha,hb2,hc,hd,he,hf,hg,hp⟩:=list8_w (rounds_len blk v hv t) (rounds_w blk v hv hvw t)
 have hk3:keysL.length=64:=rfl
 have hs3:=sprTo_len blk 48
 have ew:wrap64 ((t:Int)+1)=((t+1:Nat):Int):=by unfold wrap64; omega
 have n1:=not_w e he
 have x1:=xor_w _ _ (xor_w _ _ (rr_w_6 e he) (rr_w_11 e he)) (rr_w_25 e he)
 have x2:=xor_w _ _ (xor_w _ _ (rr_w_2 a ha) (rr_w_13 a ha)) (rr_w_22 a ha)
 have c1:=xor_w _ _ (and_w _ _ he hf) (and_w _ _ n1 hg)
 have c2:=xor_w _ _ (xor_w _ _ (and_w _ _ ha hb2) (and_w _ _ ha hc)) (and_w _ _ hb2 hc)
 have hkk:=getD_w keysL_w t
 have hww:=getD_w (sprTo_w blk hb 48) t
 rw [h1,hl,legateref02_Block.l1]
 simp only [List.length_cons,List.length_nil,Nat.zero_add,Nat.reduceAdd]
 rw [if_pos (by omega),if_pos (by omega),if_pos (by omega),if_pos (by omega),if_pos (by omega),if_pos (by omega),if_pos (by omega),if_pos (by omega)]
 have r0:rd [a,b,c,d,e,f,g,p] 0=a:=rfl
 have r1:rd [a,b,c,d,e,f,g,p] 1=b:=rfl
 have r2:rd [a,b,c,d,e,f,g,p] 2=c:=rfl
 have r3:rd [a,b,c,d,e,f,g,p] 3=d:=rfl
 have r4:rd [a,b,c,d,e,f,g,p] 4=e:=rfl
 have r5:rd [a,b,c,d,e,f,g,p] 5=f:=rfl
 have r6:rd [a,b,c,d,e,f,g,p] 6=g:=rfl
 have r7:rd [a,b,c,d,e,f,g,p] 7=p:=rfl
 rw [r0,r1,r2,r3,r4,r5,r6,r7,turn_6 e he,turn_11 e he,turn_25 e he]
 simp only [Option.bind_some]
 rw [if_pos (by omega),if_pos (by omega),if_pos (by omega),turn_2 a ha,turn_13 a ha,turn_22 a ha]
 simp only [Option.bind_some]
 rw [if_pos (by omega),ew,rd_nat,rd_nat]
 have en:wrap64 (4294967295 - e)=4294967295 - e:=by unfold W32 at he; exact w64 (by omega) (by omega)
 rw [en,i64_xor32 _ _ (rr_w_6 e he) (rr_w_11 e he),i64_xor32 _ _ (xor_w _ _ (rr_w_6 e he) (rr_w_11 e he)) (rr_w_25 e he),i64_and32 _ _ he hf,i64_and32 _ _ n1 hg,i64_xor32 _ _ (and_w _ _ he hf) (and_w _ _ n1 hg),
  i64_xor32 _ _ (rr_w_2 a ha) (rr_w_13 a ha),i64_xor32 _ _ (xor_w _ _ (rr_w_2 a ha) (rr_w_13 a ha)) (rr_w_22 a ha),i64_and32 _ _ ha hb2,i64_and32 _ _ ha hc,i64_and32 _ _ hb2 hc,
  i64_xor32 _ _ (and_w _ _ ha hb2) (and_w _ _ ha hc),i64_xor32 _ _ (xor_w _ _ (and_w _ _ ha hb2) (and_w _ _ ha hc)) (and_w _ _ hb2 hc)]
 rw [ref_X p (keysL.getD t 0) ((sprTo blk 48).getD t 0) _ _ hp hkk hww x1 c1,ref_two _ _ x2 c2]
 rw [ref_two _ _ (mod_w32 _) (mod_w32 _),ref_two _ _ hd (mod_w32 _)]
 have eb:bX e f g p (keysL.getD t 0) ((sprTo blk 48).getD t 0)=((p+Go.bits .xor .u32 (Go.bits .xor .u32 (rr e 6) (rr e 11)) (rr e 25)+Go.bits .xor .u32 (Go.bits .and .u32 e f) (Go.bits .and .u32 (4294967295 - e) g)+keysL.getD t 0) % 4294967296+(sprTo blk 48).getD t 0) % 4294967296:=by
  unfold bX; rw [not_32 e he]
 have ey:bY a b c=(Go.bits .xor .u32 (Go.bits .xor .u32 (rr a 2) (rr a 13)) (rr a 22)+Go.bits .xor .u32 (Go.bits .xor .u32 (Go.bits .and .u32 a b) (Go.bits .and .u32 a c)) (Go.bits .and .u32 b c)) % 4294967296:=rfl
 simp only [bStep]
 rw [eb,ey]
theorem ref_l1 (blk:ByteArray) (hb:blk.size=64) (v:List Int) (hv:v.length=8) (hvw:∀ x∈v,W32 x):∀ (d t k:Nat),t+d=64→d+30<k →
 legateref02_Block.l1 k keysL (sprTo blk 48) v (rounds blk v t) (t:Int)=some (strOfNums (textTo (behindL blk v) 8)):=by
 intro d
 induction d with
 | zero =>
  intro t k hm hk
  obtain ⟨k,rfl⟩:∃ j,k=j+1:=⟨k - 1,by omega⟩
  obtain rfl:t=64:=by omega
  rw [legateref02_Block.l1,if_neg (by omega)]
  exact ref_l2 (rounds blk v 64) v (rounds_len blk v hv 64) (rounds_w blk v hv hvw 64) hv hvw 8 0 k (by omega) (by omega)
 | succ d ih =>
  intro t k hm hk
  obtain ⟨k,rfl⟩:∃ j,k=j+1:=⟨k - 1,by omega⟩
  rw [ref_l1_step blk hb v hv hvw k t (by omega)]
  exact ih (t+1) k (by omega) (by omega)
theorem take_getD (L:List Int) (n i:Nat) (h:i<n):(L.take n).getD i 0=L.getD i 0:=by
 simp [List.getD_eq_getElem?_getD,List.getElem?_take,h]
theorem div_w (x d:Int) (hx:W32 x) (hd:1≤d):W32 (x / d):=by
 unfold W32 at *
 have h1:=Int.ediv_nonneg (a:=x) (b:=d) (by omega) (by omega)
 have h2:=Int.ediv_le_self (a:=x) d (by omega)
 omega
theorem ref_spr (S1 w7 S0 w16:Int) (h1:W32 S1) (h2:W32 w7) (h3:W32 S0) (h4:W32 w16) :
 Int.tmod (wrap64 ((wrap64 ((wrap64 (S1+w7))+S0))+w16)) 4294967296=(((S1+w7) % 4294967296+S0) % 4294967296+w16) % 4294967296:=by
 unfold W32 at *
 rw [w64 (x:=S1+w7) (by omega) (by omega),w64 (x:=S1+w7+S0) (by omega) (by omega),w64 (by omega) (by omega),tm (by omega)]
 omega
theorem ref_l0_step (st blk:ByteArray) (hb:blk.size=64) (k j:Nat) (hj:j<48) :
 legateref02_Block.l0 (k+1) keysL st ((sprTo blk j).take (j+16)) ((j+16:Nat):Int)=legateref02_Block.l0 k keysL st ((sprTo blk (j+1)).take (j+17)) ((j+17:Nat):Int):=by
 have hl:=sprTo_len blk j
 have hw:=sprTo_w blk hb j
 have e1:wrap64 (((j+16:Nat):Int) - 15)=((j+1:Nat):Int):=by unfold wrap64; omega
 have e2:wrap64 (((j+16:Nat):Int) - 2)=((j+14:Nat):Int):=by unfold wrap64; omega
 have e3:wrap64 (((j+16:Nat):Int) - 7)=((j+9:Nat):Int):=by unfold wrap64; omega
 have e4:wrap64 (((j+16:Nat):Int) - 16)=((j:Nat):Int):=by unfold wrap64; omega
 have e5:wrap64 (((j+16:Nat):Int)+1)=((j+17:Nat):Int):=by unfold wrap64; omega
 have htl:((sprTo blk j).take (j+16)).length=j+16:=by rw [List.length_take]; omega
 have x:=getD_w hw (j+1)
 have y:=getD_w hw (j+14)
 have w7:=getD_w hw (j+9)
 have w16:=getD_w hw j
 have s0:=xor_w _ _ (xor_w _ _ (rr_w_7 _ x) (rr_w_18 _ x)) (div_w _ 8 x (by omega))
 have s1:=xor_w _ _ (xor_w _ _ (rr_w_17 _ y) (rr_w_19 _ y)) (div_w _ 1024 y (by omega))
 have d0:wrap64 (Int.tdiv ((sprTo blk j).getD (j+1) 0) 8)=(sprTo blk j).getD (j+1) 0 / 8:=by unfold W32 at x; rw [td (by omega),w64 (by omega) (by omega)]
 have d1:wrap64 (Int.tdiv ((sprTo blk j).getD (j+14) 0) 1024)=(sprTo blk j).getD (j+14) 0 / 1024:=by unfold W32 at y; rw [td (by omega),w64 (by omega) (by omega)]
 rw [legateref02_Block.l0,e1,e2,e3,e4,e5,if_pos (by omega),if_pos (by omega),if_pos (by omega),if_pos (by omega),if_pos (by omega),rd_nat,rd_nat,rd_nat,rd_nat,
  take_getD _ _ _ (by omega),take_getD _ _ _ (by omega),take_getD _ _ _ (by omega),take_getD _ _ _ (by omega),turn_7 _ x,turn_18 _ x,turn_17 _ y,turn_19 _ y]
 simp only [Option.bind_some]
 rw [if_pos (by omega),if_pos (by omega),if_pos (by omega),if_pos (by omega),if_pos (by omega),d0,d1,
  i64_xor32 _ _ (rr_w_7 _ x) (rr_w_18 _ x),i64_xor32 _ _ (xor_w _ _ (rr_w_7 _ x) (rr_w_18 _ x)) (div_w _ 8 x (by omega)),
  i64_xor32 _ _ (rr_w_17 _ y) (rr_w_19 _ y),i64_xor32 _ _ (xor_w _ _ (rr_w_17 _ y) (rr_w_19 _ y)) (div_w _ 1024 y (by omega)),ref_spr _ _ _ _ s1 w7 s0 w16]
 have ev:sprTo blk (j+1)=(sprTo blk j).set (j+16) (sprX ((sprTo blk j).getD (j+1) 0) ((sprTo blk j).getD (j+14) 0) ((sprTo blk j).getD (j+9) 0) ((sprTo blk j).getD j 0)):=by
  rw [spr_next]
  simp only [List.getD_eq_getElem?_getD]
 have et:∀ y:Int,((sprTo blk j).set (j+16) y).take (j+17)=(sprTo blk j).take (j+16)++[y]:=fun y=>by
  rw [show j+17=(j+16)+1 from rfl,List.take_succ_eq_append_getElem (i:=j+16) (by rw [List.length_set]; omega),List.take_set_of_le (by omega)]
  simp
 rw [ev,et]
 rfl
theorem ref_l0 (st blk:ByteArray) (hb:blk.size=64) (hs:st.size=32):∀ (d j k:Nat),j+d=48→d+130<k →
 legateref02_Block.l0 k keysL st ((sprTo blk j).take (j+16)) ((j+16:Nat):Int)=some (blockB st blk):=by
 intro d
 induction d with
 | zero =>
  intro j k hm hk
  obtain ⟨k,rfl⟩:∃ j,k=j+1:=⟨k - 1,by omega⟩
  obtain rfl:j=48:=by omega
  rw [legateref02_Block.l0,if_neg (by omega),ref_words st 8 (by omega) (by omega) k (by omega)]
  simp only [Option.bind_some]
  rw [List.take_of_length_le (by rw [sprTo_len]; omega)]
  exact ref_l1 blk hb (wordsTo st 8 8) (wordsTo_len st 8 8) (words_w st 8 8 (by omega)) 64 0 k (by omega) (by omega)
 | succ d ih =>
  intro j k hm hk
  obtain ⟨k,rfl⟩:∃ j,k=j+1:=⟨k - 1,by omega⟩
  rw [ref_l0_step st blk hb k j (by omega)]
  exact ih (j+1) k (by omega) (by omega)
theorem ref_j0 (st blk:ByteArray) (hb:blk.size=64) (hs:st.size=32) (k:Nat) (hk:200≤k):legateref02_Block.j0 k keysL st blk false=some (blockB st blk):=by
 obtain ⟨k,rfl⟩:∃ j,k=j+1:=⟨k - 1,by omega⟩
 rw [legateref02_Block.j0,if_neg (by simp),ref_words blk 16 (by omega) (by omega) k (by omega)]
 simp only [Option.bind_some]
 have e:wordsTo blk 16 16=(sprTo blk 0).take (0+16):=by
  show _=(wordsTo blk 64 16).take 16
  unfold wordsTo
  rw [← List.map_take,List.take_range]
  rfl
 rw [e]
 exact ref_l0 st blk hb hs 48 0 k (by omega) (by omega)
theorem ref_block (st blk:ByteArray) (k:Nat) (hk:200≤k):legateref02_Block.f k keysL st blk=sha_Block.f st blk:=by
 unfold legateref02_Block.f sha_Block.f
 have out:∀ b,legateref02_Block.j0 k keysL st blk true=some b↔some ⟨#[]⟩=some b:=fun b=>by
  obtain ⟨k,rfl⟩:∃ j,k=j+1:=⟨k - 1,by omega⟩
  rw [legateref02_Block.j0,if_pos rfl]
 by_cases h1:st.size=32
 case neg =>
  rw [if_neg (by omega),if_neg (fun h=>h1 h.1)]
  exact (out _).2 rfl
 rw [if_pos (by omega)]
 by_cases h2:blk.size=64
 case pos =>
  have e:((blk.size:Int) != 64)=false:=by simp [h2]
  rw [e,if_pos ⟨h1,h2⟩,ref_j0 st blk h2 h1 k hk]
 have e:((blk.size:Int) != 64)=true:=by rw [bne_iff_ne]; omega
 rw [e,if_neg (fun h=>h2 h.2)]
 exact (out _).2 rfl
end Go.Proofs.YtkgijkfcmbpgpaaDoor.Giv
namespace Go.Proofs.YtkgijkfcmbpgpaaDoor.Giv
open Go.RowKit Go.Proofs.YtkgijkfcmbpgpaaDoorW.PrintWords Go.Proofs.YtkgijkfcmbpgpaaDoorW.PrintLast Go.Proofs.YtkgijkfcmbpgpaaDoorW.PrintMore Go.Proofs.YtkgijkfcmbpgpaaDoor.PSub Go.Proofs.YtkgijkfcmbpgpaaDoor.PAll
set_option linter.unusedVariables false
set_option linter.unusedSimpArgs false
theorem pad_same_l1:∀ (k:Nat) (n:Int) (x:List Int) (i:Int),legateref02_Pad.l1 k n x i=sha_Pad.l1 k n x i
 | 0,_,_,_=>by rw [legateref02_Pad.l1,sha_Pad.l1]
 | k+1,n,x,i=>by rw [legateref02_Pad.l1,sha_Pad.l1,pad_same_l1 k]
theorem pad_same_l0:∀ (k:Nat) (n:Int) (x:List Int),legateref02_Pad.l0 k n x=sha_Pad.l0 k n x
 | 0,_,_=>by rw [legateref02_Pad.l0,sha_Pad.l0]
 | k+1,n,x=>by rw [legateref02_Pad.l0,sha_Pad.l0,pad_same_l0 k,pad_same_l1 k]
theorem pad_same (k:Nat) (n:Int):legateref02_Pad.f k n=sha_Pad.f k n:=by
 unfold legateref02_Pad.f sha_Pad.f
 rw [pad_same_l0]
theorem ref_sum_l0 (t:ByteArray) (n:Nat) (ht:t.size=64 * n) (hn:n≤100000):∀ (d m k:Nat),m+d=n→d+300<k →
 legateref02_SumBy.l0 k keysL t (stB (stTo t m)) ((64 * m:Nat):Int)=some (stB (stTo t n)):=by
 intro d
 induction d with
 | zero =>
  intro m k hm hk
  obtain ⟨k,rfl⟩:∃ j,k=j+1:=⟨k - 1,by omega⟩
  obtain rfl:m=n:=by omega
  rw [legateref02_SumBy.l0,if_neg (by omega)]
 | succ d ih =>
  intro m k hm hk
  obtain ⟨k,rfl⟩:∃ j,k=j+1:=⟨k - 1,by omega⟩
  have e:wrap64 (((64 * m:Nat):Int)+64)=((64 * m+64:Nat):Int):=by unfold wrap64; omega
  rw [legateref02_SumBy.l0,e,if_pos (by omega),if_pos (by omega),if_pos (by omega),if_pos (by omega),Int.toNat_natCast,Int.toNat_natCast,ref_block _ _ k (by omega),block_stTo t m (by omega)]
  simp only [Option.bind_some]
  have:=ih (m+1) k (by omega) (by omega)
  rwa [show 64 * (m+1)=64 * m+64 from by omega] at this
theorem ref_sumBy (s:ByteArray) (hs:s.size≤5000) (k:Nat) (hk:1000≤k):legateref02_SumBy.f k keysL (stB firstL) s=sha_Sum.f s:=by
 unfold legateref02_SumBy.f
 have hp:=padB_size s.size
 have hm:=padB_mod s.size
 have hz:=padZ_lt ((s.size:Int)+1)
 have hq:(s++padB s.size).size=s.size+(padB s.size).size:=ByteArray.size_append
 obtain ⟨n,hn⟩:∃ n,(s++padB s.size).size=64 * n:=⟨(s++padB s.size).size / 64,by omega⟩
 rw [pad_same,pad_ge k (by omega) _ (by omega)]
 simp only [Option.bind_some]
 rw [if_pos (by omega),sum_st s n (by omega) hn]
 exact ref_sum_l0 _ n hn (by omega) n 0 k (by omega) (by omega)
end Go.Proofs.YtkgijkfcmbpgpaaDoor.Giv
namespace Go.Proofs.YtkgijkfcmbpgpaaDoor.Giv
open Go.RowKit Go.Proofs.YtkgijkfcmbpgpaaDoorW.PrintWords Go.Proofs.YtkgijkfcmbpgpaaDoorW.PrintLast Go.Proofs.YtkgijkfcmbpgpaaDoorW.PrintMore Go.Proofs.YtkgijkfcmbpgpaaDoor.PSub Go.Proofs.YtkgijkfcmbpgpaaDoor.PAll
set_option linter.unusedVariables false
set_option linter.unusedSimpArgs false
theorem start_l0:∀ (n i k:Nat),i+n=8→5000+n<k→legateref02_Start.l0 k (firstL.take i) (i:Int)=some (stB firstL):=by
 intro n
 induction n with
 | zero =>
  intro i k hi hk
  obtain ⟨k,rfl⟩:∃ j,k=j+1:=⟨k - 1,by omega⟩
  obtain rfl:i=8:=by omega
  rw [legateref02_Start.l0,if_neg (by omega)]
  have e:firstL.take 8=firstL:=rfl
  rw [e,ref_bytes firstL rfl firstL_inR.2 k (by omega)]
  rfl
 | succ n ih =>
  intro i k hi hk
  obtain ⟨k,rfl⟩:∃ j,k=j+1:=⟨k - 1,by omega⟩
  have e:wrap64 ((i:Int)+1)=((i+1:Nat):Int):=by unfold wrap64; omega
  have e1:=prim_ge i (by omega) (k - 5000)
  rw [show 5000+(k - 5000)=k from by omega] at e1
  have e2:=square_ge i (by omega) (k - 200)
  rw [show 200+(k - 200)=k from by omega] at e2
  have e3:firstL.length=8:=rfl
  rw [legateref02_Start.l0,if_pos (by omega),e1]
  simp only [Option.bind_some]
  rw [e2]
  simp only [Option.bind_some]
  rw [if_pos (by rw [List.length_take]; omega),e]
  have e4:firstL.take i++[firstL.getD i 0]=firstL.take (i+1):=by
   rw [List.take_succ_eq_append_getElem (by omega)]
   simp [show i<firstL.length by omega]
  rw [e4]
  exact ih (i+1) k (by omega) (by omega)
theorem start_ref (k:Nat) (hk:6000≤k):legateref02_Start.f k=some (stB firstL):=start_l0 8 0 k (by omega) (by omega)
end Go.Proofs.YtkgijkfcmbpgpaaDoor.Giv
namespace Go.Proofs.YtkgijkfcmbpgpaaDoor.Giv
open Go.RowKit Go.Proofs.YtkgijkfcmbpgpaaDoorW.PrintWords Go.Proofs.YtkgijkfcmbpgpaaDoorW.PrintLast Go.Proofs.YtkgijkfcmbpgpaaDoorW.PrintMore Go.Proofs.YtkgijkfcmbpgpaaDoor.PSub Go.Proofs.YtkgijkfcmbpgpaaDoor.PAll
set_option linter.unusedVariables false
set_option linter.unusedSimpArgs false
theorem ref_new (k:Nat) (hk:6000≤k):legateref03_New.f k=some (keysL,stB firstL):=by
 unfold legateref03_New.f
 rw [keys_ref _ hk]
 simp only [Option.bind_some]
 rw [start_ref _ hk]
 rfl
theorem ref_sum (s:ByteArray) (hs:s.size≤5000) (k:Nat) (hk:1000≤k):legateref03_Tables_Sum.f k keysL (stB firstL) s=some (sumB s):=by
 unfold legateref03_Tables_Sum.f
 rw [ref_sumBy s hs k hk,sum_some s (by omega)]
 rfl
theorem ref_key_l0 (s:ByteArray):∀ (d k:Nat) (x:ByteArray),x.size+d=64→d<k→keyB x=keyB s→legateref03_Tables_Key.l0 k x=some (keyB s):=by
 intro d
 induction d with
 | zero =>
  intro k x hx hk he
  obtain ⟨k,rfl⟩:∃ j,k=j+1:=⟨k - 1,by omega⟩
  rw [legateref03_Tables_Key.l0,if_neg (by omega),← he,keyB_of64 (by omega)]
 | succ d ih =>
  intro k x hx hk he
  obtain ⟨k,rfl⟩:∃ j,k=j+1:=⟨k - 1,by omega⟩
  have h1:(x++(⟨#[0]⟩:ByteArray)).size=x.size+1:=by rw [ByteArray.size_append]; rfl
  rw [legateref03_Tables_Key.l0,if_pos (by omega),if_pos (by omega)]
  refine ih k _ (by omega) (by omega) ?_
  rw [← he]
  exact keyB_app x _ fun j=>bt_zeros 1 j
theorem ref_key (a:ByteArray) (ha:a.size≤5000) (k:Nat) (hk:1000≤k):legateref03_Tables_Key.f k keysL (stB firstL) a=some (kyB a):=by
 have j0:∀ x:ByteArray,x.size≤64→legateref03_Tables_Key.j0 k x=some (keyB x):=fun x hx=>by
  obtain ⟨k,rfl⟩:∃ j,k=j+1:=⟨k - 1,by omega⟩
  rw [legateref03_Tables_Key.j0]
  exact ref_key_l0 x (64 - x.size) k x (by omega) (by omega) rfl
 unfold legateref03_Tables_Key.f kyB
 by_cases h:a.size≤64
 case pos =>
  rw [if_neg (by omega),if_pos h,j0 a h]
 rw [if_pos (by omega),if_neg h,ref_sum a ha k hk]
 simp only [Option.bind_some]
 exact j0 _ (by rw [sumB_size _ (by omega)]; omega)
theorem ref_xor_l0 (s:ByteArray) (c:Int) (hs:s.size≤5000):∀ (d m k:Nat),m+d=s.size→d<k →
 legateref03_Xor.l0 k s c (xorTo s c m) (m:Int)=some (xorB s c):=by
 intro d
 induction d with
 | zero =>
  intro m k hm hk
  obtain ⟨k,rfl⟩:∃ j,k=j+1:=⟨k - 1,by omega⟩
  rw [legateref03_Xor.l0,if_neg (by omega)]
  obtain rfl:m=s.size:=by omega
  rfl
 | succ d ih =>
  intro m k hm hk
  obtain ⟨k,rfl⟩:∃ j,k=j+1:=⟨k - 1,by omega⟩
  have e:wrap64 ((m:Int)+1)=((m+1:Nat):Int):=by unfold wrap64; omega
  rw [legateref03_Xor.l0,if_pos (by omega),if_pos (by omega),if_pos (by rw [xorTo_len]; omega),Int.toNat_natCast,xorTo_set,e]
  exact ih (m+1) k (by omega) (by omega)
theorem ref_xor (s:ByteArray) (c:Int) (hs:s.size≤5000) (k:Nat) (hk:s.size<k):legateref03_Xor.f k s c=some (xorB s c):=by
 unfold legateref03_Xor.f
 rw [if_pos (by omega),if_pos (by omega),Int.toNat_natCast]
 have:=ref_xor_l0 s c hs s.size 0 k (by omega) hk
 rw [xorTo_zero] at this
 exact this
theorem ref_mac (a m:ByteArray) (ha:a.size≤5000) (hm:m.size≤4000) (k:Nat) (hk:1000≤k):legateref03_Tables_Mac.f k keysL (stB firstL) a m=some (macB a m):=by
 have x1:=xorK_size a 54
 have x2:=xorK_size a 92
 have k1:=kyB_size a
 have h1:(xorB (kyB a) 54++m).size=64+m.size:=by rw [ByteArray.size_append,xorK_size]
 have h3:=sumB_size _ (show (xorB (kyB a) 54++m).size≤100000000 by omega)
 have h2:(xorB (kyB a) 92++sumB (xorB (kyB a) 54++m)).size=96:=by rw [ByteArray.size_append,xorK_size,h3]
 unfold legateref03_Tables_Mac.f
 rw [ref_key a ha k hk]
 simp only [Option.bind_some]
 rw [ref_xor _ 92 (by omega) k (by omega),ref_xor _ 54 (by omega) k (by omega)]
 simp only [Option.bind_some]
 rw [if_pos (by omega),ref_sum _ (by omega) k hk]
 simp only [Option.bind_some]
 rw [if_pos (by omega),ref_sum _ (by omega) k hk]
 rfl
end Go.Proofs.YtkgijkfcmbpgpaaDoor.Giv
end
section
namespace Go.Proofs.YtkgijkfcmbpgpaaDoor.PAll
open Go.RowKit Go.Proofs.YtkgijkfcmbpgpaaDoorW.PrintWords Go.Proofs.YtkgijkfcmbpgpaaDoorW.PrintLast Go.Proofs.YtkgijkfcmbpgpaaDoorW.PrintMore
attribute [local go_sem] max2_int min2_int max_two min_two max_three min_three max_four min_four
set_option linter.unusedVariables false
set_option linter.unusedSimpArgs false
def legateref06_Long.T1:Bool×List (List Nat×List Nat):=(true,[([],[]),([],[]),([],[]),([2],[2]),([3],[3]),([],[]),([4,5],[4,5]),([0,1,6,3],[0,1,6]),([7,7,0,1,2,3,4,5,6,7],[7])])
def legateref06_Long.B1:List Nat:=[0,0,0,4,12,0,60,127,255]
theorem legateref06_Long.tab1:rtab .any (opsOf Tryd.f47 1)=legateref06_Long.T1:=by kernel_rfl
theorem legateref06_Long.bits1:waitsOk legateref06_Long.T1.2 legateref06_Long.B1=true:=by kernel_rfl
end Go.Proofs.YtkgijkfcmbpgpaaDoor.PAll
end
section
namespace Go.Proofs.YtkgijkfcmbpgpaaDoor.Giv
open Go.RowKit Go.Proofs.YtkgijkfcmbpgpaaDoorW.PrintWords Go.Proofs.YtkgijkfcmbpgpaaDoorW.PrintLast Go.Proofs.YtkgijkfcmbpgpaaDoorW.PrintMore Go.Proofs.YtkgijkfcmbpgpaaDoor.PSub Go.Proofs.YtkgijkfcmbpgpaaDoor.PAll
set_option linter.unusedVariables false
set_option linter.unusedSimpArgs false
theorem num_step (k:Nat) (L:List Int) (x:Int) (i:Nat) (hi:i<8) (hL:L.length=8) (h0:0≤x) (h1:x<18446744073709551616) :
 legateref06_number.l0 (k+1) L x (i:Int)=legateref06_number.l0 k (L.set i (x % 256)) (x / 256) ((i:Int) - 1):=by
 have e1:wrap64 ((i:Int) - 1)=(i:Int) - 1:=by unfold wrap64; omega
 have e2:IntKind.u64.wrap (Int.tdiv x 256)=x / 256:=by rw [td h0,show IntKind.u64.wrap (x / 256)=(x / 256) % 18446744073709551616 from rfl]; omega
 have e3:(Int.tmod x 256) % 256=x % 256:=by rw [tm h0]; omega
 rw [legateref06_number.l0,if_pos (by omega),if_pos (by omega),if_pos (by omega),Int.toNat_natCast,e1,e2,e3]
theorem num_end (k:Nat) (L:List Int) (x:Int):legateref06_number.l0 (k+1) L x (-1)=some (strOfNums L):=by
 rw [legateref06_number.l0,if_neg (by omega)]
theorem ref_number (n:Int) (k:Nat) (hk:9≤k):legateref06_number.f k n=some (strOfNums (num8 n 8)):=by
 obtain ⟨k,rfl⟩:∃ j,k=j+9:=⟨k - 9,by omega⟩
 unfold legateref06_number.f
 rw [if_pos (by omega)]
 obtain ⟨X,hX⟩:∃ X,X=IntKind.u64.wrap n:=⟨_,rfl⟩
 rw [← hX]
 have hX2:X=n % 18446744073709551616:=hX
 have s7:=num_step (k+8) [0,0,0,0,0,0,0,0] X 7 (by omega) rfl (by omega) (by omega)
 have s6:=num_step (k+7) [0,0,0,0,0,0,0,X % 256] (X / 256) 6 (by omega) rfl (by omega) (by omega)
 have s5:=num_step (k+6) [0,0,0,0,0,0,X / 256 % 256,X % 256] (X / 256 / 256) 5 (by omega) rfl (by omega) (by omega)
 have s4:=num_step (k+5) [0,0,0,0,0,X / 256 / 256 % 256,X / 256 % 256,X % 256] (X / 256 / 256 / 256) 4 (by omega) rfl (by omega) (by omega)
 have s3:=num_step (k+4) [0,0,0,0,X / 256 / 256 / 256 % 256,X / 256 / 256 % 256,X / 256 % 256,X % 256] (X / 256 / 256 / 256 / 256) 3 (by omega) rfl (by omega) (by omega)
 have s2:=num_step (k+3) [0,0,0,X / 256 / 256 / 256 / 256 % 256,X / 256 / 256 / 256 % 256,X / 256 / 256 % 256,X / 256 % 256,X % 256] (X / 256 / 256 / 256 / 256 / 256) 2 (by omega) rfl (by omega) (by omega)
 have s1:=num_step (k+2) [0,0,X / 256 / 256 / 256 / 256 / 256 % 256,X / 256 / 256 / 256 / 256 % 256,X / 256 / 256 / 256 % 256,X / 256 / 256 % 256,X / 256 % 256,X % 256] (X / 256 / 256 / 256 / 256 / 256 / 256) 1 (by omega) rfl (by omega) (by omega)
 have s0:=num_step (k+1) [0,X / 256 / 256 / 256 / 256 / 256 / 256 % 256,X / 256 / 256 / 256 / 256 / 256 % 256,X / 256 / 256 / 256 / 256 % 256,X / 256 / 256 / 256 % 256,X / 256 / 256 % 256,X / 256 % 256,X % 256] (X / 256 / 256 / 256 / 256 / 256 / 256 / 256) 0 (by omega) rfl (by omega) (by omega)
 refine (s7.trans (s6.trans (s5.trans (s4.trans (s3.trans (s2.trans (s1.trans (s0.trans (num_end k _ _)))))))) ).trans ?_
 congr 2
 have e:num8 n 8=[byteAt n 0,byteAt n 1,byteAt n 2,byteAt n 3,byteAt n 4,byteAt n 5,byteAt n 6,byteAt n 7]:=rfl
 rw [e]
 simp only [List.set_cons_zero,byteAt,Nat.mul_zero,Nat.sub_zero,Nat.reduceMul,Nat.reduceSub,Int.reducePow]
 simp only [List.cons.injEq,and_true]
 refine ⟨?_,?_,?_,?_,?_,?_,?_,?_⟩<;>omega
theorem str_bytesOf (s:ByteArray):strOfNums (bytesOf s)=s:=by
 apply ByteArray.ext
 show ((bytesOf s).map fun n=>UInt8.ofNat n.toNat).toArray=s.data
 simp [bytesOf,Function.comp_def]
def textB (l:ByteArray) (n:Int) (nm:ByteArray):ByteArray:=((l++(⟨#[0]⟩:ByteArray))++strOfNums (num8 n 8))++nm
theorem num8_size (n:Int):(strOfNums (num8 n 8)).size=8:=by rw [size_strOfNums,num8_len]
theorem textB_size (l:ByteArray) (n:Int) (nm:ByteArray):(textB l n nm).size=l.size+9+nm.size:=by
 unfold textB
 rw [ByteArray.size_append,ByteArray.size_append,ByteArray.size_append,num8_size]
 show l.size+1+8+nm.size=_
 omega
theorem text_some (l:ByteArray) (n:Int) (nm:ByteArray) (hl:l.size≤100000000) (hn:nm.size≤140737488355328):derive_text.f l nm [n]=some (textB l n nm):=by
 unfold derive_text.f
 rw [if_pos ⟨hl,hn,by simp⟩]
 unfold textB headL
 rw [str_append,str_append,str_bytesOf]
 have e:numsL [n] [n].length=num8 n 8:=by simp [numsL]
 rw [e]
 rfl
def noB:ByteArray:=⟨#[]⟩
theorem app_noB (a:ByteArray):a++noB=a:=by
 apply ByteArray.ext
 rw [ByteArray.data_append]
 simp [noB]
def dkB (base:ByteArray) (use:Int) (label:ByteArray):ByteArray:=macB base (textB label use noB)
theorem dkB_size (base:ByteArray) (use:Int) (label:ByteArray) (hl:label.size≤10000000):(dkB base use label).size=32:=by
 unfold dkB
 exact macB_size _ _ (by rw [textB_size]; show label.size+9+0≤_; omega)
theorem dkey_some (base:ByteArray) (use:Int) (label:ByteArray) (hb:base.size≤100000000) (hl:label.size≤10000000):derive_Key.f base use label=some (dkB base use label):=by
 unfold derive_Key.f
 have e:=text_some label use noB (by omega) (by show 0≤_; omega)
 rw [show (⟨#[]⟩:ByteArray)=noB from rfl,e]
 simp only [Option.bind_some]
 rw [mac_some base _ hb (by rw [textB_size]; show label.size+9+0≤_; omega)]
 rfl
def cipL:ByteArray:=⟨#[99,105,112,104,101,114]⟩
def sumL:ByteArray:=⟨#[115,117,109]⟩
theorem dsum_some (base:ByteArray) (use:Int) (hb:base.size≤100000000):derive_Sum.f base use=some (dkB base use sumL):=by
 unfold derive_Sum.f
 rw [show (⟨#[115,117,109]⟩:ByteArray)=sumL from rfl,dkey_some base use sumL hb (by show 3≤_; omega)]
 rfl
def ckB (base:ByteArray) (use:Int):ByteArray:=(dkB base use cipL).extract 0 16
theorem ckB_size (base:ByteArray) (use:Int):(ckB base use).size=16:=by
 unfold ckB
 have h:=dkB_size base use cipL (by show 6≤_; omega)
 simp [h]
theorem dcip_some (base:ByteArray) (use:Int) (hb:base.size≤100000000):derive_Cipher.f base use=some (ckB base use):=by
 unfold derive_Cipher.f
 have h:=dkB_size base use cipL (by show 6≤_; omega)
 rw [show (⟨#[99,105,112,104,101,114]⟩:ByteArray)=cipL from rfl,dkey_some base use cipL hb (by show 6≤_; omega)]
 simp only [Option.bind_some]
 rw [if_pos (by omega),if_pos (by omega)]
 rfl
theorem ref_dkey (base:ByteArray) (use:Int) (label:ByteArray) (hb:base.size≤5000) (hl:label.size≤1000) (k:Nat) (hk:1000≤k) :
 legateref06_Key.f k keysL (stB firstL) base use label=some (dkB base use label):=by
 have h1:(label++(⟨#[0]⟩:ByteArray)).size=label.size+1:=by rw [ByteArray.size_append]; rfl
 have h2:=num8_size use
 unfold legateref06_Key.f
 rw [if_pos (by omega),ref_number use k (by omega)]
 simp only [Option.bind_some]
 rw [if_pos (by omega),ref_mac base _ (by omega) (by rw [ByteArray.size_append]; omega) k hk]
 simp only [Option.bind_some]
 unfold dkB textB
 rw [app_noB]
theorem ref_dcip (base:ByteArray) (use:Int) (hb:base.size≤5000) (k:Nat) (hk:1000≤k):legateref06_Cipher.f k keysL (stB firstL) base use=some (ckB base use):=by
 have h:=dkB_size base use cipL (by show 6≤_; omega)
 unfold legateref06_Cipher.f
 rw [show (⟨#[99,105,112,104,101,114]⟩:ByteArray)=cipL from rfl,ref_dkey base use cipL hb (by show 6≤_; omega) k hk]
 simp only [Option.bind_some]
 rw [if_pos (by omega),if_pos (by omega)]
 rfl
theorem ref_dsum (base:ByteArray) (use:Int) (hb:base.size≤5000) (k:Nat) (hk:1000≤k):legateref06_Sum.f k keysL (stB firstL) base use=some (dkB base use sumL):=by
 unfold legateref06_Sum.f
 rw [show (⟨#[115,117,109]⟩:ByteArray)=sumL from rfl,ref_dkey base use sumL hb (by show 3≤_; omega) k hk]
 rfl
end Go.Proofs.YtkgijkfcmbpgpaaDoor.Giv
end
section
namespace Go.Proofs.YtkgijkfcmbpgpaaDoor.Giv
def tN (x:Nat):Nat:=(x <<< 1) % 2 ^ 8 ^^^ (if x.testBit 7 then 27 else 0)
def mN:Nat→Nat→Nat→Nat
  | 0,_,_=>0
  | n+1,a,b=>(if b % 2=1 then a else 0) ^^^ mN n (tN a) (b / 2)
def mB (a b:Nat):Nat:=mN 8 a b
def Lin (f:Nat→Nat):Prop:=∀ x y,f (x ^^^ y)=f x ^^^ f y
theorem xor4 (a b c d:Nat):(a ^^^ b) ^^^ (c ^^^ d)=(a ^^^ c) ^^^ (b ^^^ d):=by
 rw [Nat.xor_assoc,Nat.xor_assoc]; congr 1; rw [← Nat.xor_assoc,← Nat.xor_assoc,Nat.xor_comm b c]
theorem Lin.zero {f:Nat→Nat} (h:Lin f):f 0=0:=by
 have:=h 0 0
 simpa using this
theorem Lin.comp {f g:Nat→Nat} (hf:Lin f) (hg:Lin g):Lin fun x=>f (g x):=fun x y=>by
 show f (g (x ^^^ y))=_; rw [hg,hf]
theorem Lin.xor {f g:Nat→Nat} (hf:Lin f) (hg:Lin g):Lin fun x=>f x ^^^ g x:=fun x y=>by
 show f (x ^^^ y) ^^^ g (x ^^^ y)=_; rw [hf,hg,xor4]
theorem Lin.bit (i c:Nat):Lin fun x=>if x.testBit i then c else 0:=fun x y=>by
 show (if (x ^^^ y).testBit i then c else 0)=_
 rw [Nat.testBit_xor]
 cases hx:x.testBit i<;>cases hy:y.testBit i<;>simp [hx,hy]
theorem Lin.shl (k:Nat):Lin fun x=>x <<< k:=fun _ _=>Nat.shiftLeft_xor_distrib
theorem Lin.shr (k:Nat):Lin fun x=>x >>> k:=fun _ _=>Nat.shiftRight_xor_distrib
theorem Lin.mod (k:Nat):Lin fun x=>x % 2 ^ k:=fun _ _=>Nat.xor_mod_two_pow
theorem Lin.id:Lin fun x=>x:=fun _ _=>rfl
theorem Lin.const0:Lin fun _=>0:=fun _ _=>by simp
theorem tN_lin:Lin tN:=((Lin.mod 8).comp (Lin.shl 1)).xor (Lin.bit 7 27)
theorem mN_linA:∀ n b,Lin fun a=>mN n a b
 | 0,b=>Lin.const0
 | n+1,b=>by
  show Lin fun a=>(if b % 2=1 then a else 0) ^^^ mN n (tN a) (b / 2)
  refine Lin.xor ?_ ((mN_linA n (b / 2)).comp tN_lin)
  by_cases h:b % 2=1
  case pos =>
   simp only [if_pos h]; exact Lin.id
  simp only [if_neg h]; exact Lin.const0
theorem mN_linB:∀ n a,Lin fun b=>mN n a b
 | 0,a=>Lin.const0
 | n+1,a=>by
  show Lin fun b=>(if b % 2=1 then a else 0) ^^^ mN n (tN a) (b / 2)
  refine Lin.xor ?_ ((mN_linB n (tN a)).comp (fun x y=>Nat.xor_div_two))
  have:=Lin.bit 0 a
  simpa [Nat.testBit_zero] using this
theorem lin_ext {f g:Nat→Nat} (hf:Lin f) (hg:Lin g):∀ n,(∀ i,i<n→f (2 ^ i)=g (2 ^ i))→∀ x,x<2 ^ n→f x=g x
 | 0,_,x,hx=>by
  obtain rfl:x=0:=by simpa using hx
  rw [hf.zero,hg.zero]
 | n+1,h,x,hx=>by
  have ih:=lin_ext hf hg n (fun i hi=>h i (by omega))
  by_cases hl:x<2 ^ n
  case pos =>
   exact ih x hl
  have hy:x - 2 ^ n<2 ^ n:=by rw [Nat.pow_succ] at hx; omega
  have e:x=2 ^ n ^^^ (x - 2 ^ n):=by
   have e1:x=2 ^ n * 1+(x - 2 ^ n):=by omega
   have e2:=Nat.two_pow_add_eq_or_of_lt hy 1
   rw [← e1] at e2
   rw [Nat.mul_one] at e2
   rw [e2]
   apply Nat.eq_of_testBit_eq
   intro i
   have e3:(2 ^ n ||| (x - 2 ^ n)) - 2 ^ n=x - 2 ^ n:=by rw [← e2]
   rw [e3]
   simp only [Nat.testBit_or,Nat.testBit_xor,Nat.testBit_two_pow]
   by_cases hi:n=i
   case neg =>
    simp [hi]
   subst hi; rw [Nat.testBit_lt_two_pow hy]; simp
  rw [e,hf,hg,h n (by omega),ih _ hy]
theorem tN_lt (x:Nat):tN x<256:=by
 unfold tN
 refine Nat.xor_lt_two_pow (n:=8) (Nat.mod_lt _ (by decide)) ?_
 split<;>decide
theorem mB_comm (a b:Nat) (ha:a<256) (hb:b<256):mB a b=mB b a:=by
 refine lin_ext (f:=fun a=>mB a b) (g:=fun a=>mB b a) (mN_linA 8 b) (mN_linB 8 b) 8 ?_ a ha
 intro i hi
 refine lin_ext (f:=fun b=>mB (2 ^ i) b) (g:=fun b=>mB b (2 ^ i)) (mN_linB 8 _) (mN_linA 8 _) 8 ?_ b hb
 intro j hj
 revert j
 revert i
 decide
theorem mB_assoc (a b c:Nat) (ha:a<256) (hb:b<256) (hc:c<256):mB (mB a b) c=mB a (mB b c):=by
 refine lin_ext (f:=fun a=>mB (mB a b) c) (g:=fun a=>mB a (mB b c)) ((mN_linA 8 c).comp (mN_linA 8 b)) (mN_linA 8 _) 8 ?_ a ha
 intro i hi
 refine lin_ext (f:=fun b=>mB (mB (2 ^ i) b) c) (g:=fun b=>mB (2 ^ i) (mB b c)) ((mN_linA 8 c).comp (mN_linB 8 _)) ((mN_linB 8 _).comp (mN_linA 8 c)) 8 ?_ b hb
 intro j hj
 refine lin_ext (f:=fun c=>mB (mB (2 ^ i) (2 ^ j)) c) (g:=fun c=>mB (2 ^ i) (mB (2 ^ j) c)) (mN_linB 8 _) ((mN_linB 8 _).comp (mN_linB 8 _)) 8 ?_ c hc
 intro k hk
 revert k
 revert j
 revert i
 decide
theorem mB_one (a:Nat):mB a 1=a:=by
 simp [mB,mN]
theorem mN_zeroB:∀ n a,mN n a 0=0:=fun n a=>(mN_linB n a).zero
theorem mB_two (a:Nat):mB a 2=tN a:=by simp [mB,mN]
theorem mB_three (a:Nat):mB a 3=a ^^^ tN a:=by simp [mB,mN]
def inN (a:Nat):Nat :=
  let a2:=mB a a
  let a3:=mB a2 a
  let a6:=mB a3 a3
  let a12:=mB a6 a6
  let a15:=mB a12 a3
  let a30:=mB a15 a15
  let a60:=mB a30 a30
  let a120:=mB a60 a60
  let a126:=mB a120 a6
  let a127:=mB a126 a
  mB a127 a127
end Go.Proofs.YtkgijkfcmbpgpaaDoor.Giv
end
