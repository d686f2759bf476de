import Derived.Test.YtkgijkfcmbpgpaaDoorS2b0
import Derived.Test.YtkgijkfcmbpgpaaDoorS2b1
import Derived.Test.YtkgijkfcmbpgpaaDoorS2b2
section
namespace Go.Proofs.YtkgijkfcmbpgpaaDoor.Giv
open Go.RowKit Go.Proofs.YtkgijkfcmbpgpaaDoorW.PrintWords Go.Proofs.YtkgijkfcmbpgpaaDoorW.PrintLast Go.Proofs.YtkgijkfcmbpgpaaDoorW.PrintMore Go.Proofs.YtkgijkfcmbpgpaaDoor.PSub
def wordAt (s:ByteArray) (i:Nat):Int:=(sha_word.f (s.extract (4 * i) s.size)).getD 0
def wordsTo (s:ByteArray) (n k:Nat):List Int:=(List.range n).map fun j=>if j<k then wordAt s j else 0
theorem wordsTo_len (s:ByteArray) (n k:Nat):(wordsTo s n k).length=n:=by simp [wordsTo]
theorem wordsTo_set (s:ByteArray) (n k:Nat):(wordsTo s n k).set k (wordAt s k)=wordsTo s n (k+1):=by
 apply List.ext_getElem?
 intro i
 simp only [wordsTo,List.getElem?_set,List.length_map,List.length_range,List.getElem?_map]
 by_cases hi:i<n
 case neg =>
  simp [hi]; intro h; omega
 by_cases hk:k=i
 case pos =>
  subst hk; simp [hi]
 simp [hi,hk]; congr 1; simp; omega
theorem word_some (s:ByteArray) (i:Nat) (h:4 * i+4≤s.size):sha_word.f (s.extract (4 * i) s.size)=some (wordAt s i):=by
 have e:((s.extract (4 * i) s.size).size:Int)≥4:=by simp; omega
 unfold wordAt
 unfold sha_word.f
 rw [if_pos (by omega),if_pos (by omega),if_pos (by omega),if_pos (by omega)]
 rfl
set_option maxRecDepth 100000 in
theorem sha_read (s:ByteArray) (hs:32≤s.size) (hm:s.size≤9223372036854775807) (w:World):Calls Tryd.prog 59 #[.string s] w fun e w'=>e=.returned (.agg (AK .u32 (wordsTo s 8 8)))∧Below w.heap.size w w':=by
 go_enter Tryd.func59,Tryd.ntmps59
 go_wp2_with fail
 go_loopw [5] (fun v5 wr=>∃ k:Nat,k≤8∧v5=.int .i64 k∧wr.heap[w.heap.size+1]? = some (.cells (AK .u32 (wordsTo s 8 k)) 58 (0,0))∧wr.heap[w.heap.size]? = some (.cells (AK .u32 (wordsTo s 8 0)) 58 (0,0))∧Below w.heap.size w wr) (fun v5 _=>8 - (intOf v5).toNat)
 case atStart =>
  refine ⟨0,by omega,rfl,heap_alloc2_new _ _ _,heap_alloc2_old _ _ _,((Below.refl _ _).alloc (Nat.le_refl _) _).alloc (by simp) _⟩
 case round =>
  obtain ⟨k,hk,rfl,hb1,hb0,hB⟩:=hrel
  by_cases hlt:k<8
  case neg =>
   obtain rfl:k=8:=by omega
   have hL:=wordsTo_len s 8 8
   have HL:=zK hL
   clear hL
   have HB1:=zK hb1
   have HB0:=zK hb0
   clear hb1 hb0
   go_wp2_with (first|(refine wpList_load_row rfl 58 (.tmp 3) rfl (w.heap.size+1) rfl 58 _ (0,0) _ HB1.out Tryd.underlying58 rfl (by kernel_rfl) ?_)|(refine wpList_store_row rfl 58 (.tmp 2) (.tmp 16) rfl w.heap.size _ rfl rfl 58 _ HB0.out (by kernel_rfl) (by simp only [AK_size,wordsTo_len]) (AK_one _ _) ?_))
   exact bodyPost_ret (results_cell_row (P:=Tryd.prog) (p:=2) (ty:=58) rfl _ _ w.heap.size 58 _ (0,0) _ rfl (setRow_heap _ _ _ _ _ _ HB0.out) Tryd.underlying58 rfl (by kernel_rfl)) rfl ⟨rfl,below_setRow hB (Nat.le_refl _) _⟩
  have hw:=word_some s k (by omega)
  have hl:=wordsTo_len s 8 k
  have hc:=AK_cell hb1 k (by omega)
  have hf:=frozen_of_row wr (w.heap.size+1) k _ _ hb1
  go_wp2_with fail
  refine (sha_word.calls _ _ _ hw).mono ?_
  rintro e w1 ⟨rfl,m,rfl⟩
  have HB1:=zK hb1
  have HB0:=zK hb0
  have HW:=zK hw
  have HL:=zK hl
  clear hb1 hb0 hw hl
  go_wp2
  go_roundw
  case rel =>
   refine ⟨k+1,by omega,by go_num,?_,?_,?_⟩
   ·rw [heap_setCell_same (wr.drewN m) _ _ _ _ _ HB1.out,AK_set,wordsTo_set]
   ·rw [heap_setCell_other _ _ _ _ (by simp)]; exact HB0.out
   ·exact (zN hB m).setCell (by simp) _
  case measure=>simp [intOf]; omega
def wordBytes (x:Int):List Int:=[(x / 16777216) % 256,(x / 65536) % 256,(x / 256) % 256,x % 256]
def textTo (v:List Int) (k:Nat):List Int:=(v.take k).flatMap wordBytes
theorem textTo_len (v:List Int) (k:Nat) (h:k≤v.length):(textTo v k).length=4 * k:=by
 induction k with
 | zero=>simp [textTo]
 | succ k ih =>
  have:=ih (by omega)
  unfold textTo at this ⊢
  rw [List.take_succ_eq_append_getElem (by omega),List.flatMap_append]
  simp [this,wordBytes]; omega
theorem textTo_succ (v:List Int) (k:Nat) (h:k<v.length):textTo v (k+1)=textTo v k++wordBytes (v.getD k 0):=by
 unfold textTo
 rw [List.take_succ_eq_append_getElem h,List.flatMap_append]
 simp [h]
theorem news_alloc (W:World) (cs:List Value) (t:TypeId):∀ (j:Nat) (u:Value),cs[j]? = some u→(W.alloc (.cells cs.toArray t)).cell? ((⟨W.heap.size,0,none⟩:Addr).add j)=some u:=by
 intro j u h
 have e:(⟨W.heap.size,0,none⟩:Addr).add j=⟨W.heap.size,j,none⟩:=by unfold Addr.add; split<;>simp_all
 rw [e,cell_of_row _ _ j _ _ _ (heap_alloc_new W (.cells cs.toArray t))]
 simpa using h
theorem nums_one (q:IntKind) (l:List Int):∀ u∈nums q l,u.oneCell'=true:=by
 intro u hu; simp only [nums,List.mem_map] at hu; obtain ⟨x,_,rfl⟩:=hu; rfl
theorem info5:(Tryd.prog.info? 5).map (fun i=>(i.zero,i.size,i.bytes))=some (some (.int .u8 0),1,1):=by kernel_rfl
theorem agg56:∀ w,(isAgg 56).run Tryd.prog w=.ok false w:=fun _=>by kernel_rfl
theorem size56:∀ w,(sizeOf 56).run Tryd.prog w=.ok 1 w:=fun _=>by kernel_rfl
set_option maxRecDepth 100000 in
theorem sha_text (v:List Int) (hv:v.length=8) (w:World):Calls Tryd.prog 57 #[.agg (AK .u32 v)] w fun e w'=>e=.returned (.string (strOfNums (textTo v 8)))∧Below w.heap.size w w':=by
 go_enter Tryd.func57,Tryd.ntmps57
 have hb1:=zK (heap_alloc_new w (.cells (AK .u32 v) 58))
 go_wp2_with (refine wpList_load_row rfl 58 (.tmp 1) rfl w.heap.size rfl 58 _ (0,0) _ hb1.out Tryd.underlying58 rfl (by rw [AK_size,hv]; kernel_rfl) ?_)
 clear hb1
 go_loopw [3,7] (fun v3 v7 wr=>∃ k:Nat,k≤8∧v7=.int .i64 k∧Aside0 (wr.ownsRow w.heap.size 5 1 v3 (4 * k) (nums .u8 (textTo v k)))∧Below w.heap.size w wr) (fun _ v7 _=>8 - (intOf v7).toNat)
 case atStart =>
  exact ⟨0,by omega,rfl,⟨World.ownsRow_nil _ _ _ _⟩,(Below.refl _ _).alloc (Nat.le_refl _) _⟩
 case round =>
  obtain ⟨k,hk,rfl,HO,hB⟩:=hrel
  by_cases hlt:k<8
  case neg =>
   obtain rfl:k=8:=by omega
   have hcv:=own_string (P:=Tryd.prog) Tryd.underlying44 Tryd.underlying5 Tryd.underlying9 HO.out
   go_wp2
   go_ret
   exact ⟨rfl,hB⟩
  have hidx:=run_index_AK (q:=.u32) (l:=v) Tryd.underlying58 hv agg56 size56 k (by omega)
  have hts:=textTo_succ v k (by omega)
  have HT:=zK hts
  clear hts
  obtain ⟨i0,hi,hz0,hz1,hz2⟩:=info_parts info5
  go_wp2_with (at_builtin; refine wpList_append_own _ rfl (.tmp 10) (.tmp 22) 44 rfl w.heap.size 5 i0 (.int .u8 0) 1 1 Tryd.underlying44 hi hz0 hz1 hz2 rfl (by decide) u3 (4 * k) _ rfl (HO.out.alloc _) ⟨wr.heap.size,0,none⟩ 4 4 (nums .u8 (wordBytes v[k])) rfl rfl (news_alloc _ _ _) (nums_one _ _) ?c3 ?c4 ?c5 ?_; (case c3=>unfold maxLen; omega); (case c4=>omega); (case c5=>have:=hB.size; simp; omega); intro v' w1 hown hg hn; have HO1:=zK hown; have HG:=zK hg; clear hown hg hn)
  go_roundw
  case rel =>
   refine ⟨k+1,by omega,by go_num,⟨?_⟩,?_⟩
   ·have e:nums .u8 (textTo v (k+1))=nums .u8 (textTo v k)++nums .u8 (wordBytes v[k]):=by
     rw [HT.out]; simp [nums,hlt,hv]
    rw [e]
    exact HO1.out
   ·exact (hB.alloc hB.size _).grown HG.out (by have:=hB.size; simp; omega) (fun j e=>own_base HO.out j e)
  case measure=>simp [intOf]; omega
theorem bits_nonneg (o:BinOp) (q:IntKind) (hq:∀ n:Nat,0≤q.wrap (n:Int)) (x y:Int) (h:o=.and∨o=.or∨o=.xor):0≤Go.bits o q x y:=by
 unfold Go.bits
 rcases h with rfl|rfl|rfl<;>simp<;>exact hq _
theorem u64_wrap_nonneg (x:Int):0≤IntKind.u64.wrap x:=by
 have e:IntKind.u64.wrap x=x % 18446744073709551616:=by rfl
 rw [e]
 omega
theorem rot_some (x k:Int):∃ r,bits_RotateLeft32.f x k=some r:=by
 unfold bits_RotateLeft32.f
 rw [if_pos (bits_nonneg _ _ (fun n=>u64_wrap_nonneg _) _ _ (.inl rfl)),if_pos (u64_wrap_nonneg _)]
 exact ⟨_,rfl⟩
def rr (x k:Int):Int:=(bits_RotateLeft32.f x (-k)).getD 0
theorem rr_some (x k:Int):bits_RotateLeft32.f x (-k)=some (rr x k):=by
 obtain ⟨r,hr⟩:=rot_some x (-k)
 unfold rr; rw [hr]; rfl
set_option maxRecDepth 100000 in
theorem right85 (x k:Int) (h0:0≤k) (h1:k≤64) (w:World):Calls Tryd.prog 85 #[.int .u32 x,.int .i64 k] w fun e w'=>e=.returned (.int .u32 (rr x k))∧Drawn0 w w':=by
 have hr:=zK (rr_some x k)
 go_enter Tryd.func85,Tryd.ntmps85
 go_wp2_with fail
 refine (bits_RotateLeft32.calls _ _ _ _ hr.out).mono ?_
 rintro e w1 ⟨rfl,m,rfl⟩
 go_wp2
 go_ret
 exact ⟨rfl,m,rfl⟩
set_option maxRecDepth 100000 in
theorem right75 (x k:Int) (h0:0≤k) (h1:k≤64) (w:World):Calls Tryd.prog 75 #[.int .u32 x,.int .i64 k] w fun e w'=>e=.returned (.int .u32 (rr x k))∧Drawn0 w w':=by
 have hr:=zK (rr_some x k)
 go_enter Tryd.func75,Tryd.ntmps75
 go_wp2_with fail
 refine (bits_RotateLeft32.calls _ _ _ _ hr.out).mono ?_
 rintro e w1 ⟨rfl,m,rfl⟩
 go_wp2
 go_ret
 exact ⟨rfl,m,rfl⟩
end Go.Proofs.YtkgijkfcmbpgpaaDoor.Giv
namespace Go.Proofs.YtkgijkfcmbpgpaaDoor.Giv
open Go.RowKit Go.Proofs.YtkgijkfcmbpgpaaDoorW.PrintWords Go.Proofs.YtkgijkfcmbpgpaaDoorW.PrintLast Go.Proofs.YtkgijkfcmbpgpaaDoorW.PrintMore Go.Proofs.YtkgijkfcmbpgpaaDoor.PSub
set_option linter.unusedVariables false
set_option linter.unusedSimpArgs false
def sprX (x y w7 w16:Int):Int :=
  IntKind.u32.wrap (IntKind.u32.wrap (IntKind.u32.wrap (Go.bits .xor .u32 (Go.bits .xor .u32 (rr y 17) (rr y 19)) (y / 1024)+w7)+Go.bits .xor .u32 (Go.bits .xor .u32 (rr x 7) (rr x 18)) (x / 8))+w16)
def sprStep (l:List Int) (t:Nat):Int:=sprX (l.getD (t - 15) 0) (l.getD (t - 2) 0) (l.getD (t - 7) 0) (l.getD (t - 16) 0)
def sprTo (s:ByteArray):Nat→List Int
  | 0=>wordsTo s 64 16
  | t+1=>(sprTo s t).set (t+16) (sprStep (sprTo s t) (t+16))
theorem sprTo_len (s:ByteArray) (t:Nat):(sprTo s t).length=64:=by
 induction t with
 | zero=>simp [sprTo,wordsTo_len]
 | succ t ih=>simp [sprTo,ih]
theorem spr_next (s:ByteArray) (k:Nat):sprTo s (k+1)=(sprTo s k).set (k+16) (sprX ((sprTo s k)[k+1]?.getD 0) ((sprTo s k)[k+14]?.getD 0) ((sprTo s k)[k+9]?.getD 0) ((sprTo s k)[k]?.getD 0)):=by
 show (sprTo s k).set (k+16) (sprX ((sprTo s k).getD (k+16 - 15) 0) ((sprTo s k).getD (k+16 - 2) 0) ((sprTo s k).getD (k+16 - 7) 0) ((sprTo s k).getD (k+16 - 16) 0))=_
 rw [show k+16 - 15=k+1 from by omega,show k+16 - 2=k+14 from by omega,show k+16 - 7=k+9 from by omega,show k+16 - 16=k from by omega]
 simp only [List.getD_eq_getElem?_getD]
set_option maxHeartbeats 1000000 in
set_option maxRecDepth 100000 in
theorem sha_spread (s:ByteArray) (hs:64≤s.size) (hm:s.size≤9223372036854775807) (w:World):Calls Tryd.prog 77 #[.string s] w fun e w'=>e=.returned (.agg (AK .u32 (sprTo s 48)))∧Below w.heap.size w w':=by
 go_enter Tryd.func77,Tryd.ntmps77
 go_wp2_with fail
 go_loopw [9] (fun v9 wr=>∃ k:Nat,k≤16∧v9=.int .i64 k∧wr.heap[w.heap.size+1]? = some (.cells (AK .u32 (wordsTo s 64 k)) 74 (0,0))∧wr.heap[w.heap.size]? = some (.cells (AK .u32 (wordsTo s 64 0)) 74 (0,0))∧Below w.heap.size w wr) (fun v9 _=>16 - (intOf v9).toNat)
 case atStart =>
  refine ⟨0,by omega,rfl,heap_alloc2_new _ _ _,heap_alloc2_old _ _ _,((Below.refl _ _).alloc (Nat.le_refl _) _).alloc (by simp) _⟩
 case round =>
  obtain ⟨k,hk,rfl,hb1,hb0,hB⟩:=hrel
  by_cases hlt:k<16
  case pos =>
   have hw:=word_some s k (by omega)
   have hl:=wordsTo_len s 64 k
   have hc:=AK_cell hb1 k (by omega)
   have hf:=frozen_of_row wr (w.heap.size+1) k _ _ hb1
   go_wp2_with fail
   refine (sha_word.calls _ _ _ hw).mono ?_
   rintro e w1 ⟨rfl,m,rfl⟩
   have HB1:=zK hb1
   have HB0:=zK hb0
   have HW:=zK hw
   have HL:=zK hl
   clear hb1 hb0 hw hl
   go_wp2
   go_roundw
   case rel =>
    refine ⟨k+1,by omega,by go_num,?_,?_,?_⟩
    ·rw [heap_setCell_same (wr.drewN m) _ _ _ _ _ HB1.out,AK_set,wordsTo_set]
    ·rw [heap_setCell_other _ _ _ _ (by simp)]; exact HB0.out
    ·exact (zN hB m).setCell (by simp) _
   case measure=>simp [intOf]; omega
  have h16:16≤k:=by omega
  have HB1:=zK (show wr.heap[w.heap.size+1]? = some (.cells (AK .u32 (sprTo s 0)) 74 (0,0)) from by rw [hb1,show k=16 from by omega]; rfl)
  have HB0:=zK hb0
  clear hb1 hb0
  go_wp2_with fail
  go_loopw [6] (fun v6 wq=>∃ k:Nat,k≤48∧v6=.int .i64 ((k:Int)+16)∧Aside0 (wq.heap[w.heap.size+1]? = some (.cells (AK .u32 (sprTo s k)) 74 (0,0)))∧Aside0 (wq.heap[w.heap.size]? = some (.cells (AK .u32 (wordsTo s 64 0)) 74 (0,0)))∧Below w.heap.size w wq) (fun v6 _=>64 - (intOf v6).toNat)
  case atStart=>exact ⟨0,by omega,rfl,HB1,HB0,hB⟩
  case round =>
   clear HB1 HB0
   obtain ⟨k,hk,rfl,HB1,HB0,hB⟩:=hrel
   by_cases hlt:k<48
   case neg =>
    obtain rfl:k=48:=by omega
    have hl:=sprTo_len s 48
    have hl0:=wordsTo_len s 64 0
    go_wp2_with (first|(refine wpList_load_row rfl 74 (.tmp 4) rfl (w.heap.size+1) rfl 74 _ (0,0) _ HB1.out Tryd.underlying74 rfl (by rw [AK_size,hl]; kernel_rfl) ?_)|(refine wpList_store_row rfl 74 (.tmp 2) (.tmp 65) rfl w.heap.size _ rfl rfl 74 _ HB0.out (by rw [AK_size,hl]; kernel_rfl) (by simp only [AK_size,hl,hl0]) (AK_one _ _) ?_))
    exact bodyPost_ret (results_cell_row (P:=Tryd.prog) (p:=2) (ty:=74) rfl _ _ w.heap.size 74 _ (0,0) _ rfl (setRow_heap _ _ _ _ _ _ HB0.out) Tryd.underlying74 rfl (by rw [AK_size,hl]; kernel_rfl)) rfl ⟨rfl,below_setRow hB (Nat.le_refl _) _⟩
   go_wp2_with fail
   have hl:=sprTo_len s k
   have hc1:=AK_cell HB1.out (k+1) (by omega)
   have hc2:=AK_cell HB1.out (k+14) (by omega)
   have e1:IntKind.i64.wrap ((k:Int)+16 - 15)=(k:Int)+1:=by rw [IntWalk.i64_in _ (by omega)]; omega
   have e2:IntKind.i64.wrap ((k:Int)+16 - 2)=(k:Int)+14:=by rw [IntWalk.i64_in _ (by omega)]; omega
   have n1:((k:Int)+1).toNat=k+1:=by omega
   have n2:((k:Int)+14).toNat=k+14:=by omega
   have p1:(0:Int)≤(k:Int)+1:=by omega
   have p2:(0:Int)≤(k:Int)+14:=by omega
   have q1:(k:Int)+1<64:=by omega
   have q2:(k:Int)+14<64:=by omega
   go_quiet (fail)
   clear hc1 hc2 e1 e2 n1 n2 p1 p2 q1 q2
   have hc1:=AK_cell HB1.out (k+9) (by omega)
   have hc2:=AK_cell HB1.out k (by omega)
   have hc3:=AK_cell HB1.out (k+16) (by omega)
   have hf3:=frozen_of_row wr (w.heap.size+1) (k+16) _ _ HB1.out
   have K1:=zK (fun (m:Nat) (v:Value)=>(World.cell?_setCell_other (w:=wr.drewN m) (a:=⟨w.heap.size+1,k+16,none⟩) (b:=⟨w.heap.size+1,k+9,none⟩) (v:=v) (by simp)).trans hc1)
   have K2:=zK (fun (m:Nat) (v:Value)=>(World.cell?_setCell_other (w:=wr.drewN m) (a:=⟨w.heap.size+1,k+16,none⟩) (b:=⟨w.heap.size+1,k,none⟩) (v:=v) (by simp)).trans hc2)
   have e1:IntKind.i64.wrap ((k:Int)+16 - 7)=(k:Int)+9:=by rw [IntWalk.i64_in _ (by omega)]; omega
   have e2:IntKind.i64.wrap ((k:Int)+16 - 16)=(k:Int):=by rw [IntWalk.i64_in _ (by omega)]; omega
   have e3:IntKind.i64.wrap (k:Int)=(k:Int):=by rw [IntWalk.i64_in _ (by omega)]
   have p2:(0:Int)≤(k:Int):=by omega
   have n1:((k:Int)+9).toNat=k+9:=by omega
   have n3:((k:Int)+16).toNat=k+16:=by omega
   have p1:(0:Int)≤(k:Int)+9:=by omega
   have p3:(0:Int)≤(k:Int)+16:=by omega
   have q1:(k:Int)+9<64:=by omega
   have q2:(k:Int)<64:=by omega
   have q3:(k:Int)+16<64:=by omega
   go_wp2_with fail
   go_region_held3 (fun w'=>w'.cell? ⟨w.heap.size+1,k+9,none⟩=some (.int .u32 ((sprTo s k).getD (k+9) 0))∧w'.cell? ⟨w.heap.size+1,k,none⟩=some (.int .u32 ((sprTo s k).getD k 0)))
    (first|exact ⟨K1.out _ _,K2.out _ _⟩|go_keep)
    (first|(go_at_call 85; refine (right85 _ _ (by omega) (by omega) _).mono ?_; rintro e w' ⟨rfl,m,rfl⟩))
   clear hc1 hc2 hc3 hf3 K1 K2 e1 e2 e3 p1 p2 p3 q1 q2 q3 n1 n3
   go_wp2
   go_roundw
   case rel =>
    refine ⟨k+1,by omega,by go_num,⟨?_⟩,⟨?_⟩,?_⟩
    ·refine (AK_store (w:=wr.drewN _) HB1.out (k+16) _).trans ?_
     rw [spr_next]; rfl
    ·rw [heap_setCell_other _ _ _ _ (by simp)]; exact HB0.out
    ·exact (zN hB _).setCell (by simp) _
   case measure=>simp [intOf]; omega
end Go.Proofs.YtkgijkfcmbpgpaaDoor.Giv
namespace Go.Proofs.YtkgijkfcmbpgpaaDoor.Giv
open Go.RowKit Go.Proofs.YtkgijkfcmbpgpaaDoorW.PrintWords Go.Proofs.YtkgijkfcmbpgpaaDoorW.PrintLast Go.Proofs.YtkgijkfcmbpgpaaDoorW.PrintMore Go.Proofs.YtkgijkfcmbpgpaaDoor.PSub
set_option linter.unusedVariables false
set_option linter.unusedSimpArgs false
theorem heap_at {W:World} {o:Obj} {n:Nat} (h:W.heap.size=n):(W.alloc o).heap[n]? = some o:=by subst h; exact heap_alloc_new W o
theorem heap_before {W:World} {o x:Obj} {n:Nat} (h:W.heap[n]? = some x):(W.alloc o).heap[n]? = some x:=by
 have e:=Below.heap_alloc W o n (Array.getElem?_eq_some_iff.1 h).1
 exact e.trans h
def bX (e f g p kk ww:Int):Int:=(((p+Go.bits .xor .u32 (Go.bits .xor .u32 (rr e 6) (rr e 11)) (rr e 25)+Go.bits .xor .u32 (Go.bits .and .u32 e f) (Go.bits .and .u32 (Go.bits .xor .u32 (if IntKind.u32.signed=true then -1 else IntKind.u32.max) e) g)+kk) % 4294967296+ww) % 4294967296)
def bY (a b c:Int):Int:=(Go.bits .xor .u32 (Go.bits .xor .u32 (rr a 2) (rr a 13)) (rr a 22)+Go.bits .xor .u32 (Go.bits .xor .u32 (Go.bits .and .u32 a b) (Go.bits .and .u32 a c)) (Go.bits .and .u32 b c)) % 4294967296
def bStep (l:List Int) (kk ww:Int):List Int:=match l with
  | [a,b,c,d,e,f,g,p]=>[(bX e f g p kk ww+bY a b c) % 4294967296,a,b,c,(d+bX e f g p kk ww) % 4294967296,e,f,g]
  | _=>l
theorem list8 {l:List Int} (h:l.length=8):∃ a b c d e f g i,l=[a,b,c,d,e,f,g,i]:=by
 match l,h with
 | [a,b,c,d,e,f,g,i],_=>exact ⟨a,b,c,d,e,f,g,i,rfl⟩
def rounds (s:ByteArray) (v:List Int):Nat→List Int
  | 0=>v
  | k+1=>bStep (rounds s v k) (keysL.getD k 0) ((sprTo s 48).getD k 0)
theorem bStep_len (l:List Int) (kk ww:Int) (h:l.length=8):(bStep l kk ww).length=8:=by
 obtain ⟨a,b,c,d,e,f,g,i,rfl⟩:=list8 h; rfl
theorem rounds_len (s:ByteArray) (v:List Int) (hv:v.length=8) (k:Nat):(rounds s v k).length=8:=by
 induction k with
 | zero=>exact hv
 | succ k ih=>exact bStep_len _ _ _ ih
theorem behind_start (w:World) (v:List Int) (Z:Array Value) (w1:World) (hb:Below ((((w.alloc (.cells (AK .u32 v) 58)).alloc (.cells Z 58)).alloc (.cells Z 58)).setRow (w.heap.size+1+1) (AK .u32 v)).heap.size ((((w.alloc (.cells (AK .u32 v) 58)).alloc (.cells Z 58)).alloc (.cells Z 58)).setRow (w.heap.size+1+1) (AK .u32 v)) w1) :
 w1.heap[w.heap.size]? = some (.cells (AK .u32 v) 58 (0,0))∧w1.heap[w.heap.size+1]? = some (.cells Z 58 (0,0))∧w1.heap[w.heap.size+2]? = some (.cells (AK .u32 v) 58 (0,0))∧Below w.heap.size w w1:=by
 refine ⟨(hb.block _ (by simp; omega)).trans ?_,(hb.block _ (by simp)).trans ?_,(hb.block _ (by simp)).trans ?_,?_⟩
 ·rw [setRow_other _ _ _ _ (by omega)]; exact heap_before (heap_before (heap_at rfl))
 ·rw [setRow_other _ _ _ _ (by omega)]; exact heap_before (heap_at (by simp))
 ·exact setRow_heap _ _ _ _ _ _ (heap_at (by simp))
 ·exact (below_setRow ((((Below.refl _ _).alloc (Nat.le_refl _) _).alloc (by simp) _).alloc (by simp; omega) _) (by omega) _).trans (hb.mono (by simp; omega))
def addTo (R v:List Int):Nat→List Int
  | 0=>R
  | k+1=>(addTo R v k).set k (((addTo R v k).getD k 0+v.getD k 0) % 4294967296)
theorem addTo_len (R v:List Int) (k:Nat):(addTo R v k).length=R.length:=by
 induction k with
 | zero=>rfl
 | succ k ih=>simp [addTo,ih]
def behindL (s:ByteArray) (v:List Int):List Int:=addTo (rounds s v 64) v 8
theorem behindL_len (s:ByteArray) (v:List Int) (hv:v.length=8):(behindL s v).length=8:=by
 unfold behindL; rw [addTo_len,rounds_len s v hv]
set_option maxHeartbeats 2000000 in
set_option maxRecDepth 100000 in
theorem sha_behind (v:List Int) (hv:v.length=8) (s:ByteArray) (hs:64≤s.size) (hm:s.size≤9223372036854775807) (w:World) (hG:GW w) :
 Calls Tryd.prog 56 #[.agg (AK .u32 v),.string s] w fun e w'=>e=.returned (.agg (AK .u32 (behindL s v)))∧Below w.heap.size w w':=by
 have HV:=zK hv
 have HG:=zK hG
 have hG1:=hG.lt
 clear hv hG
 go_enter Tryd.func56,Tryd.ntmps56
 go_wp2_with (first|(refine wpList_load_row rfl 58 (.tmp 2) rfl w.heap.size rfl 58 (AK .u32 v) (0,0) _ (heap_alloc2_old _ _ _) Tryd.underlying58 rfl (by rw [AK_size,HV.out]; kernel_rfl) ?_)|(refine wpList_store_row rfl 58 (.tmp 6) (.tmp 14) rfl _ (AK .u32 v) rfl rfl 58 _ (heap_at (by simp)) (by rw [AK_size,HV.out]; kernel_rfl) (by rw [AK_size,HV.out]; rfl) (AK_one _ _) ?_)|fail)
 refine (sha_spread s hs hm _).mono ?_
 rintro e w1 ⟨rfl,hb⟩
 obtain ⟨f0,f1,f2,hB⟩:=behind_start w v _ w1 hb
 have F0:=zK f0
 have F1:=zK f1
 have F2:=zK f2
 clear hb f0 f1 f2
 go_wp2_with fail
 go_loopw [17] (fun v17 wr=>∃ k:Nat,k≤64∧v17=.int .i64 k∧Aside0 (wr.heap[w.heap.size]? = some (.cells (AK .u32 (rounds s v k)) 58 (0,0)))∧Aside0 (wr.heap[w.heap.size+1]? = some (.cells (AK .u32 (List.replicate 8 0)) 58 (0,0)))∧Aside0 (wr.heap[w.heap.size+2]? = some (.cells (AK .u32 v) 58 (0,0)))∧Below w.heap.size w wr) (fun v17 _=>64 - (intOf v17).toNat)
 case atStart=>exact ⟨0,by omega,rfl,F0,F1,F2,hB⟩
 case round =>
  clear F0 F1 F2 hB
  obtain ⟨k,hk,rfl,F0,F1,F2,hB⟩:=hrel
  by_cases hlt:k<64
  case neg =>
   have h64:64≤k:=by omega
   obtain ⟨R,hR⟩:∃ R,R=rounds s v k:=⟨_,rfl⟩
   have hRl:=rounds_len s v HV.out k
   rw [← hR] at hRl F0
   have HR:=zK hR
   have HRL:=zK hRl
   clear hR hRl
   go_wp2_with fail
   go_loopw [104] (fun v104 wq=>∃ j:Nat,j≤8∧v104=.int .i64 j∧Aside0 (wq.heap[w.heap.size]? = some (.cells (AK .u32 (addTo R v j)) 58 (0,0)))∧Aside0 (wq.heap[w.heap.size+1]? = some (.cells (AK .u32 (List.replicate 8 0)) 58 (0,0)))∧Aside0 (wq.heap[w.heap.size+2]? = some (.cells (AK .u32 v) 58 (0,0)))∧Below w.heap.size w wq) (fun v104 _=>8 - (intOf v104).toNat)
   case atStart=>exact ⟨0,by omega,rfl,F0,F1,F2,hB⟩
   case round =>
    clear F0 F1 F2 hB
    obtain ⟨j,hj,rfl,F0,F1,F2,hB⟩:=hrel
    by_cases hjt:j<8
    case neg =>
     obtain rfl:j=8:=by omega
     have hLl:=addTo_len R v 8
     rw [HRL.out] at hLl
     have hsp:addTo R v 8=behindL s v:=by rw [HR.out,show k=64 from by omega]; rfl
     rw [hsp] at F0 hLl
     have HLL:=zK hLl
     clear hsp hLl
     go_wp2_with (first|(refine wpList_load_row rfl 58 (.tmp 2) rfl w.heap.size rfl 58 (AK .u32 (behindL s v)) (0,0) _ F0.out Tryd.underlying58 rfl (by rw [AK_size,HLL.out]; kernel_rfl) ?_)|(refine wpList_store_row rfl 58 (.tmp 4) (.tmp 116) rfl (w.heap.size+1) (AK .u32 (behindL s v)) rfl rfl 58 _ F1.out (by rw [AK_size,HLL.out]; kernel_rfl) (by rw [AK_size,AK_size,HLL.out]; rfl) (AK_one _ _) ?_))
     exact bodyPost_ret (results_cell_row (P:=Tryd.prog) (p:=4) (ty:=58) rfl _ _ (w.heap.size+1) 58 _ (0,0) _ rfl (setRow_heap _ _ _ _ _ _ F1.out) Tryd.underlying58 rfl (by rw [AK_size,HLL.out]; kernel_rfl)) rfl ⟨rfl,below_setRow hB (by omega) _⟩
    have c1:=AK_cell F0.out j (by rw [addTo_len,HRL.out]; exact hjt)
    have c2:=AK_cell F2.out j (by rw [HV.out]; exact hjt)
    have c3:=frozen_of_row wr w.heap.size j _ _ F0.out
    have q0:(0:Int)≤(j:Int):=by omega
    have q1:(j:Int)<8:=by omega
    go_wp2_with fail
    go_still_tail 8,(by kernel_rfl)
    go_wp2
    go_roundw
    case rel =>
     refine ⟨j+1,by omega,by go_num,⟨?_⟩,⟨?_⟩,⟨?_⟩,?_⟩
     ·have e:=AK_store (w:=wr) F0.out j (((addTo R v j).getD j 0+v.getD j 0) % 4294967296)
      simp only [List.getD_eq_getElem?_getD] at e
      simp only [addTo,List.getD_eq_getElem?_getD]
      exact e
     ·exact (heap_setCell_other wr _ _ _ (by simp)).trans F1.out
     ·exact (heap_setCell_other wr _ _ _ (by simp)).trans F2.out
     ·exact (hB.setCell (by simp) _).drew
    case measure=>simp [intOf]; omega
  obtain ⟨a,b,c,d,e,f,g,p,hR⟩:=list8 (rounds_len s v HV.out k)
  have HR:=zK hR
  have F0':=F0.out
  rw [hR] at F0'
  clear hR
  have hc0:=AK_cell F0' 0 (by simp)
  have hc4:=AK_cell F0' 4 (by simp)
  have hc1:=AK_cell F0' 1 (by simp)
  have hc2:=AK_cell F0' 2 (by simp)
  have hc3:=AK_cell F0' 3 (by simp)
  have hc5:=AK_cell F0' 5 (by simp)
  have hc6:=AK_cell F0' 6 (by simp)
  have hc7:=AK_cell F0' 7 (by simp)
  have F0'':=zK F0'
  clear F0'
  simp only [List.getD_cons_zero,List.getD_cons_succ] at hc0 hc1 hc2 hc3 hc4 hc5 hc6 hc7
  have hidx:=run_index_AK (q:=.u32) (l:=sprTo s 48) Tryd.underlying74 (sprTo_len s 48) agg56 size56 k (by rw [sprTo_len]; exact hlt)
  have hk1:=(HG.out.below hB).key k hlt
  obtain ⟨ww,hww⟩:∃ ww,ww=(sprTo s 48).getD k 0:=⟨_,rfl⟩
  obtain ⟨kk,hkk⟩:∃ kk,kk=keysL.getD k 0:=⟨_,rfl⟩
  rw [← hww] at hidx
  rw [← hkk] at hk1
  have HWW:=zK hww
  have HKK:=zK hkk
  clear hww hkk
  go_wp2_with fail
  go_quiet (fail)
  go_wp2_with fail
  go_quiet ((go_at_call 75; (with_reducible refine (right75 _ _ (by omega) (by omega) _).mono ?_); rintro e w' ⟨rfl,⟨nd,rfl⟩⟩; first|exact ⟨rfl,_,World.drewN_drewN _ _ _⟩|exact ⟨rfl,_,Eq.trans (World.drewN_drewN _ _ _) (congrArg (World.drewN _) (Nat.add_assoc _ _ _))⟩|exact ⟨rfl,_,rfl⟩))
  generalize hX:(((p+Go.bits .xor .u32 (Go.bits .xor .u32 (rr e 6) (rr e 11)) (rr e 25)+Go.bits .xor .u32 (Go.bits .and .u32 e f) (Go.bits .and .u32 (Go.bits .xor .u32 (if IntKind.u32.signed=true then -1 else IntKind.u32.max) e) g)+kk) % 4294967296+ww) % 4294967296)=X
  have HX:=zK hX
  clear hX
  go_wp2_with fail
  go_quiet ((go_at_call 75; (with_reducible refine (right75 _ _ (by omega) (by omega) _).mono ?_); rintro e w' ⟨rfl,⟨nd,rfl⟩⟩; first|exact ⟨rfl,_,World.drewN_drewN _ _ _⟩|exact ⟨rfl,_,Eq.trans (World.drewN_drewN _ _ _) (congrArg (World.drewN _) (Nat.add_assoc _ _ _))⟩|exact ⟨rfl,_,rfl⟩))
  generalize hY:(Go.bits .xor .u32 (Go.bits .xor .u32 (rr a 2) (rr a 13)) (rr a 22)+Go.bits .xor .u32 (Go.bits .xor .u32 (Go.bits .and .u32 a b) (Go.bits .and .u32 a c)) (Go.bits .and .u32 b c)) % 4294967296=Y
  have HY:=zK hY
  clear hY
  have hst:(rounds s v (k+1))=[(X+Y) % 4294967296,a,b,c,(d+X) % 4294967296,e,f,g]:=by
   show bStep (rounds s v k) (keysL.getD k 0) ((sprTo s 48).getD k 0)=_
   rw [HR.out,← HKK.out,← HWW.out,← HX.out,← HY.out]
   rfl
  have HST:=zK hst
  clear hst
  go_wp2_with (refine wpList_store_row rfl 58 (.tmp 2) (.tmp 102) rfl w.heap.size (AK .u32 [(X+Y) % 4294967296,a,b,c,(d+X) % 4294967296,e,f,g]) rfl rfl 58 _ F0.out (by kernel_rfl) (by rw [AK_size,rounds_len s v HV.out k]; rfl) (AK_one _ _) ?_)
  go_roundw
  case rel=>exact ⟨k+1,by omega,by go_num,⟨by rw [HST.out]; exact setRow_heap (wr.drewN _) _ _ _ _ _ F0.out⟩,⟨(setRow_other _ _ _ _ (by omega)).trans F1.out⟩,⟨(setRow_other _ _ _ _ (by omega)).trans F2.out⟩,below_setRow (zN hB _) (Nat.le_refl _) _⟩
  case measure=>simp [intOf]; omega
end Go.Proofs.YtkgijkfcmbpgpaaDoor.Giv
namespace Go.Proofs.YtkgijkfcmbpgpaaDoor.Giv
open Go.RowKit Go.Proofs.YtkgijkfcmbpgpaaDoorW.PrintWords Go.Proofs.YtkgijkfcmbpgpaaDoorW.PrintLast Go.Proofs.YtkgijkfcmbpgpaaDoorW.PrintMore Go.Proofs.YtkgijkfcmbpgpaaDoor.PSub Go.Proofs.YtkgijkfcmbpgpaaDoor
set_option linter.unusedVariables false
set_option linter.unusedSimpArgs false
def blockB (a0 a1:ByteArray):ByteArray:=strOfNums (textTo (behindL a1 (wordsTo a0 8 8)) 8)
def sha_Block.f (a0 a1:ByteArray):Option ByteArray:=if a0.size=32∧a1.size=64 then some (blockB a0 a1) else some ⟨#[]⟩
set_option maxHeartbeats 1000000 in
set_option maxRecDepth 100000 in
theorem sha_Block.calls (a0 a1:ByteArray) (r:ByteArray) (w:World) {gw:GW w} (h:sha_Block.f a0 a1=some r) :
 Calls Tryd.prog 22 #[.string a0,.string a1] w fun e w'=>e=.returned (.string r)∧Below w.heap.size w w':=by
 have HG:=zK gw
 clear gw
 unfold sha_Block.f at h
 by_cases h0:a0.size=32
 case neg =>
  have t0:((a0.size:Int) != 32)=true:=by rw [bne_iff_ne]; omega
  rw [if_neg (fun hh=>h0 hh.1)] at h
  obtain rfl:=Option.some.inj h
  clear h h0
  go_enter Tryd.func22,Tryd.ntmps22
  go_wp2
  go_ret
  exact ⟨rfl,Below.refl _ _⟩
 have t0:((a0.size:Int) != 32)=false:=by simp [h0]
 by_cases h1:a1.size=64
 case neg =>
  have t1:((a1.size:Int) != 64)=true:=by rw [bne_iff_ne]; omega
  rw [if_neg (fun hh=>h1 hh.2)] at h
  obtain rfl:=Option.some.inj h
  clear h h0 h1
  go_enter Tryd.func22,Tryd.ntmps22
  go_wp2
  go_ret
  exact ⟨rfl,Below.refl _ _⟩
 have t1:((a1.size:Int) != 64)=false:=by simp [h1]
 rw [if_pos ⟨h0,h1⟩] at h
 obtain rfl:=Option.some.inj h
 have s0:32≤a0.size:=by omega
 have s1:64≤a1.size:=by omega
 have m0:a0.size≤9223372036854775807:=by omega
 have m1:a1.size≤9223372036854775807:=by omega
 clear h h0 h1
 go_enter Tryd.func22,Tryd.ntmps22
 go_wp2_with fail
 refine (sha_read a0 s0 m0 _).mono ?_
 rintro e w1 ⟨rfl,hb1⟩
 have HB1:=zK (below_step (Below.refl w.heap.size w) hb1)
 clear hb1
 go_wp2_with fail
 refine (sha_behind _ (wordsTo_len _ _ _) a1 s1 m1 _ (HG.out.below HB1.out)).mono ?_
 rintro e w2 ⟨rfl,hb2⟩
 have HB2:=zK (below_step HB1.out hb2)
 clear hb2
 go_wp2_with fail
 refine (sha_text _ (behindL_len _ _ (wordsTo_len _ _ _)) _).mono ?_
 rintro e w3 ⟨rfl,hb3⟩
 have HB3:=zK (below_step HB2.out hb3)
 clear hb3
 go_wp2
 go_ret
 exact ⟨rfl,HB3.out⟩
def sha_Start.f:Option ByteArray:=some (strOfNums (textTo firstL 8))
theorem firstL_len:firstL.length=8:=rfl
set_option maxHeartbeats 1000000 in
set_option maxRecDepth 100000 in
theorem sha_Start.calls (r:ByteArray) (w:World) {gw:GW w} (h:sha_Start.f=some r) :
 Calls Tryd.prog 25 #[] w fun e w'=>e=.returned (.string r)∧Below w.heap.size w w':=by
 obtain rfl:=Option.some.inj h
 clear h
 obtain ⟨⟨t,fr,h0⟩,_⟩:=gw
 have H0:=zK h0
 clear h0
 go_enter Tryd.func25,Tryd.ntmps25
 go_wp2_with (first|(refine wpList_load_row rfl 58 (.global 0) rfl 0 rfl t (AK .u32 firstL) fr _ H0.out Tryd.underlying58 rfl (by kernel_rfl) ?_)|(go_at_call 57; refine (sha_text _ firstL_len _).mono ?_; rintro e w3 ⟨rfl,hb3⟩))
 go_ret
 exact ⟨rfl,hb3⟩
theorem exec_load_row {P:Program} {o:Oper} {ev:Operand→Value} {w:World} (ty:TypeId) (x:Operand) (ho:o.op=.load ty x)
 (g:Nat) (hx:ev x=.pointer (some ⟨g,0,none⟩)) (t:TypeId) (cs:Array Value) (fr:Nat×Nat) (d:TypeDesc) (hg:w.heap[g]? = some (.cells cs t fr))
 (hu:P.underlying ty=some d) (hd:(match d with|.struct _ | .array _ _=>true|_=>false)=true) (hi:(P.info? ty).map (·.size)=some cs.size) :
 (execOp ev o).run P w=.ok (.value (.agg cs)) w:=by
 unfold execOp
 simp only [ho,hx,Instr.loadAt,Instr.sureAddr,Sem.run_bind,Sem.run_pure,Result.andThen_ok,run_loadVar_row w g t ty cs fr d hg hu hd hi]
theorem exec_store_row {P:Program} {o:Oper} {ev:Operand→Value} {w:World} (ty:TypeId) (x y:Operand) (ho:o.op=.store ty x y)
 (g:Nat) (cells:Array Value) (hx:ev x=.pointer (some ⟨g,0,none⟩)) (hy:ev y=.agg cells)
 (t:TypeId) (old:Array Value) (hg:w.heap[g]? = some (.cells old t (0,0))) (hi:(P.info? ty).map (·.size)=some cells.size)
 (hold:old.size=cells.size) (h1:cells.all (·.oneCell')=true) :
 (execOp ev o).run P w=.ok .skip (w.setRow g cells):=by
 unfold execOp
 simp only [ho,hx,hy,Instr.storeAt,Instr.sureAddr,Sem.run_bind,Sem.run_pure,Result.andThen_ok,run_storeVar_row w g t ty old cells hg hi hold h1]
def stTo (t:ByteArray):Nat→List Int
  | 0=>firstL
  | k+1=>behindL (t.extract (64 * k) (64 * k+64)) (stTo t k)
theorem stTo_len (t:ByteArray) (k:Nat):(stTo t k).length=8:=by
 induction k with
 | zero=>rfl
 | succ k ih=>exact behindL_len _ _ ih
theorem stTo_succ (t:ByteArray) (k:Nat):stTo t (k+1)=behindL (t.extract (64 * k) (64 * k+64)) (stTo t k):=rfl
set_option maxHeartbeats 1000000 in
set_option maxRecDepth 100000 in
theorem sum_walk (s p:ByteArray) (k:Nat) (n:Nat) (hp:PAll.sha_Pad.f k s.size=some p) (hn:(s++p).size=64 * n) (hs:(s++p).size≤1000000000) (w:World) (gw:GW w) :
 Calls Tryd.prog 20 #[.string s] w fun e w'=>e=.returned (.string (strOfNums (textTo (stTo (s++p) n) 8)))∧Below w.heap.size w w':=by
 have HG:=zK gw
 have HP:=zK hp
 have hz:(s++p).size=s.size+p.size:=by simp
 have l1:s.size≤1000000000:=by omega
 have l2:s.size+p.size≤9223372036854775807:=by omega
 obtain ⟨⟨t,fr,h0⟩,_⟩:=gw
 have H0:=zK h0
 have HN:=zK hn
 have HS:=zK hs
 have HZ:=zK hz
 clear h0 hp hn hs hz
 go_enter Tryd.func20,Tryd.ntmps20
 go_wp2_with fail
 refine (PAll.sha_Pad.calls k _ _ _ HP.out).mono ?_
 rintro e w1 ⟨rfl,hb1⟩
 have H0':w1.heap[0]? = some (.cells (AK .u32 firstL) t fr):=(hb1.block 0 (by have:=HG.out.lt; omega)).trans H0.out
 have H0:=zK H0'
 have HB:=zK hb1
 clear H0' hb1
 obtain ⟨T,hT⟩:∃ T,T=s++p:=⟨_,rfl⟩
 go_wp2_with (first|(refine wpList_load_row rfl 58 (.global 0) rfl 0 rfl t (AK .u32 firstL) fr _ H0.out Tryd.underlying58 rfl (by kernel_rfl) ?_)|(refine wpList_store_row rfl 58 (.tmp 3) (.tmp 10) rfl _ (AK .u32 firstL) rfl rfl 58 _ (heap_at (by simp)) (by kernel_rfl) rfl (AK_one _ _) ?_)|fail)
 rw [← hT] at HN HS HZ ⊢
 have HB2:=zK (below_setRow (below_step (Below.refl w.heap.size w) HB.out |>.alloc HB.out.size (.cells (AK .u32 (List.replicate 8 0)) 58)) HB.out.size (g:=w1.heap.size) (AK .u32 firstL))
 have HX:=zK (setRow_heap (w1.alloc (.cells (AK .u32 (List.replicate 8 0)) 58)) w1.heap.size _ (AK .u32 firstL) 58 (0,0) (heap_at rfl))
 have HL:=zK HB.out.size
 have HTT:=zK hT
 clear hT HB H0
 go_loopw [4] (fun v4 wr=>∃ k:Nat,k≤n∧v4=.int .i64 ((64 * k:Nat):Int)∧Aside0 (wr.heap[w1.heap.size]? = some (.cells (AK .u32 (stTo T k)) 58 (0,0)))∧Aside0 (Below w.heap.size w wr)) (fun v4 _=>T.size - (intOf v4).toNat)
 case atStart=>exact ⟨0,by omega,rfl,HX,HB2⟩
 case round =>
  clear HX HB2
  obtain ⟨k,hk,rfl,HX,HB⟩:=hrel
  by_cases hlt:k<n
  case neg =>
   have hkn:k=n:=by omega
   rw [hkn] at HX
   have hge:T.size≤64 * k:=by rw [HN.out]; omega
   clear hkn
   go_wp2_with (first|(refine wpList_load_row rfl 58 (.tmp 3) rfl w1.heap.size rfl 58 (AK .u32 (stTo T n)) (0,0) _ HX.out Tryd.underlying58 rfl (by rw [AK_size,stTo_len]; kernel_rfl) ?_)|(go_at_call 57; refine (sha_text _ (stTo_len T n) _).mono ?_; rintro e w3 ⟨rfl,hb3⟩))
   go_ret
   exact ⟨by rw [← HTT.out]; rfl,below_step HB.out hb3⟩
  have t1:decide (((64 * k:Nat):Int)<(T.size:Int))=true:=by rw [HN.out]; simp; omega
  have b1:64 * k+64≤T.size:=by rw [HN.out]; omega
  have b2:T.size≤1000000000:=HS.out
  have w1':wrap64 (64 * (k:Int)+64)=64 * (k:Int)+64:=by unfold wrap64; omega
  have w2':IntKind.i64.wrap (64 * (k:Int)+64)=64 * (k:Int)+64:=IntWalk.i64_in _ (by omega)
  have hsl:∀ W:World,(Instr.slice 9 (.string T) (some (.int .i64 (64 * (k:Int)))) (some (.int .i64 (64 * (k:Int)+64))) none).run Tryd.prog W=.ok (.string (T.extract (64 * k) (64 * k+64))) W:=fun W=>by
   rw [run_slice_string (P:=Tryd.prog) (w:=W) 9 T .i64 .i64 (64 * (k:Int)) (64 * (k:Int)+64) Tryd.underlying9 (by omega) (by omega) (by omega),show (64 * (k:Int)).toNat=64 * k from by omega,show (64 * (k:Int)+64).toNat=64 * k+64 from by omega]
  go_wp2_with fail
  refine start_ (n:=8) (S:=fun w'=>w'.heap[w1.heap.size]? = some (.cells (AK .u32 (stTo T k)) 58 (0,0))) (ds:=[7]) #[G,G,G,G,G,G,G,G] (by kernel_rfl) rfl rfl HX.out (fun hHeld=>?_)
  refine with_tab (T:=rtab .any (opsOf Tryd.f20 6)) (by kernel_rfl) (fun HT_=>?_)
  refine take_ (i:=0) (N:=(some 17)) (v:=?_) (a':=?_) #[O,G,G,G,G,G,G,G] rfl rfl (take_of HT_.out (by kernel_rfl)) (fun _ _ _ h=>h) (Or.inl ⟨by rfl,?_⟩) hHeld ?_ ?_
  rotate_left
  ·intro w' hs'
   (refine exec_load_row 58 (.tmp 3) ?h1 w1.heap.size ?h2 58 (AK .u32 (stTo T k)) (0,0) _ hs' Tryd.underlying58 rfl ?h3; (case h1=>rfl); (case h2=>rfl); (case h3=>rw [AK_size,stTo_len]; kernel_rfl))
  rotate_left
  ·simp only [Act.put,zp]
   rfl
  refine zq 1 (some 18) ?_ #[O,O,G,G,G,G,G,G] rfl rfl (any_of HT_.out (by kernel_rfl)) (fun _ _ _ h=>h) (Or.inl ⟨by rfl,?_⟩) ?_ ?_ ?_
  rotate_left;(intro w';go_simp;with_reducible rfl);rotate_left;(simp only [Act.put,zp];rfl)
  refine zq 2 (some 19) ?_ #[O,O,O,G,G,G,G,G] rfl rfl (any_of HT_.out (by kernel_rfl)) (fun _ _ _ h=>h) (Or.inl ⟨by rfl,?_⟩) ?_ ?_ ?_
  rotate_left;(intro w';go_simp;with_reducible rfl);rotate_left;(simp only [Act.put,zp];rfl)
  refine zq 3 (some 20) ?_ #[O,O,O,O,G,G,G,G] rfl rfl (any_of HT_.out (by kernel_rfl)) (fun _ _ _ h=>h) (Or.inl ⟨by rfl,?_⟩) ?_ ?_ ?_
  rotate_left;(intro w';go_simp;with_reducible rfl);rotate_left;(simp only [Act.put,zp];rfl)
  refine zq 4 (some 21) ?_ #[O,O,O,O,O,G,G,G] rfl rfl (any_of HT_.out (by kernel_rfl)) (fun _ _ _ h=>h) (Or.inl ⟨by rfl,?_⟩) ?_ ?_ ?_
  rotate_left;(intro w';go_simp;with_reducible rfl);rotate_left;(simp only [Act.put,zp];rfl)
  refine zq 5 (some 22) ?_ #[O,O,O,O,O,O,G,G] rfl rfl (any_of HT_.out (by kernel_rfl)) (fun _ _ _ h=>h) (Or.inl ⟨by rfl,?_⟩) ?_ ?_ ?_
  rotate_left;(intro w';go_simp;with_reducible rfl);rotate_left;(simp only [Act.put,zp];rfl)
  refine one_ (i:=6) (N:=(some 23)) #[O,O,O,O,O,O,O,G] rfl rfl (one_of HT_.out (by kernel_rfl)) (by decide) (fun K hK=>?_)
  refine goes_ Tryd.func56 (by kernel_rfl) rfl #[.agg (AK .u32 (stTo T k)),.string (T.extract (64 * k) (64 * k+64))] (by rfl) rfl rfl (by (try simp only [zm]); first|done|rfl) ?_
  have z1:(T.extract (64 * k) (64 * k+64)).size=64:=by simp; omega
  have hbh:=sha_behind _ (stTo_len T k) (T.extract (64 * k) (64 * k+64)) (by omega) (by omega) _ (HG.out.below HB.out.drew)
  obtain ⟨Z,hZ⟩:∃ Z,Z=behindL (T.extract (64 * k) (64 * k+64)) (stTo T k):=⟨_,rfl⟩
  have hZl:Z.length=8:=by rw [hZ]; exact behindL_len _ _ (stTo_len T k)
  rw [← hZ] at hbh
  have HZ1:=zK hZ
  have HZ2:=zK hZl
  clear hZ hZl z1
  refine hbh.mono ?_
  clear hbh
  rintro e w2 ⟨rfl,hb⟩
  refine ⟨_,rfl,?_⟩
  have HX2:=(hb.block _ (Array.getElem?_eq_some_iff.1 HX.out).1).trans HX.out
  refine hK.out _ _ HX2 (fun hHeld=>?_)
  clear hK K
  refine norm_ (a':=?_) ?_ ?_
  rotate_left
  ·show Act.put _ (some 23) _=_
   simp only [Act.put,zp]
   rfl
  refine last_ (i:=7) (N:=none) #[O,O,O,O,O,O,O,O] rfl rfl (one_of HT_.out (by kernel_rfl)) (by decide) (fun K hK=>?_)
  refine skip_ (w1:=?_) (by rfl) rfl ?_ ?_
  rotate_left
  ·(refine exec_store_row 58 (.tmp 3) (.tmp 23) ?h1 w1.heap.size (AK .u32 Z) ?h2 ?h3 58 _ HX2 ?h4 ?h5 (AK_one _ _); (case h1=>rfl); (case h2=>rfl); (case h3=>rfl); (case h4=>rw [AK_size,HZ2.out]; kernel_rfl); (case h5=>rw [AK_size,AK_size,HZ2.out,stTo_len]))
  refine hK.out _ _ ?_
  clear hK K
  refine done_ (done_of HT_.out (by kernel_rfl)) ?_
  have hb':=below_step HB.out.drew hb
  have HX3:=zK HX2
  have HB':=zK hb'
  clear hb hb' HX2 hsl w1' w2' hHeld
  try go_wp2
  go_roundw
  case rel =>
   refine ⟨k+1,by omega,?_,⟨?_⟩,⟨?_⟩⟩
   ·exact congrArg (Value.int .i64) (by omega)
   ·rw [stTo_succ,← HZ1.out]
    exact setRow_heap _ _ _ _ _ _ HX3.out
   ·exact below_setRow HB'.out HL.out _
  case measure=>simp [intOf]; omega
end Go.Proofs.YtkgijkfcmbpgpaaDoor.Giv
namespace Go.Proofs.YtkgijkfcmbpgpaaDoor.Giv
open Go.RowKit Go.Proofs.YtkgijkfcmbpgpaaDoorW.PrintWords Go.Proofs.YtkgijkfcmbpgpaaDoorW.PrintLast Go.Proofs.YtkgijkfcmbpgpaaDoorW.PrintMore Go.Proofs.YtkgijkfcmbpgpaaDoor
set_option linter.unusedVariables false
set_option linter.unusedSimpArgs false
def lenB (n:Int) (j:Nat):Int:=(shr .u64 (IntKind.u64.wrap ((IntKind.u64.wrap (n)) * 8)) ((8 * j:Nat):Int)) % 256
def lenL (n:Int):List Int:=[lenB n 7,lenB n 6,lenB n 5,lenB n 4,lenB n 3,lenB n 2,lenB n 1,lenB n 0]
def padZ (m:Int):Nat:=((-(m+8)) % 64).toNat
def padL (n:Int):List Int:=128 :: List.replicate (padZ (n+1)) 0++lenL n
def padB (n:Int):ByteArray:=strOfNums (padL n)
theorem pad_cond (m:Int) (l:Nat):(Int.tmod (wrap64 ((wrap64 (m+(l:Int)))+8)) 64)=0↔(m+l+8) % 64=0:=by
 constructor
 ·intro h
  have h2:=Int.dvd_of_tmod_eq_zero h
  unfold wrap64 at h2
  omega
 ·intro h
  apply Int.tmod_eq_zero_of_dvd
  unfold wrap64
  omega
theorem pad_step (k:Nat) (n:Int) (x:List Int) (j:Nat) (hj:j<8) (hx:x.length<140737488355328) :
 PAll.sha_Pad.l1 (k+1) n x (j:Int)=PAll.sha_Pad.l1 k n (x++[lenB n j]) ((j:Int) - 1):=by
 simp only [PAll.sha_Pad.l1]
 have e:wrap64 (8 * (j:Int))=((8 * j:Nat):Int):=by unfold wrap64; omega
 have e2:wrap64 ((j:Int) - 1)=(j:Int) - 1:=by unfold wrap64; omega
 rw [if_pos (by omega),e,if_pos (by omega),if_pos hx,e2]
 rfl
theorem pad_end (k:Nat) (n:Int) (x:List Int):PAll.sha_Pad.l1 (k+1) n x (-1)=some (strOfNums x):=by
 simp only [PAll.sha_Pad.l1]
 rw [if_neg (by omega)]
theorem pad_l1 (k:Nat) (n:Int) (x:List Int) (hx:x.length<1000000):PAll.sha_Pad.l1 (k+9) n x 7=some (strOfNums (x++lenL n)):=by
 have s7:=pad_step (k+8) n x 7 (by omega) (by omega)
 have s6:=pad_step (k+7) n (x++[lenB n 7]) 6 (by omega) (by simp; omega)
 have s5:=pad_step (k+6) n (x++[lenB n 7]++[lenB n 6]) 5 (by omega) (by simp; omega)
 have s4:=pad_step (k+5) n (x++[lenB n 7]++[lenB n 6]++[lenB n 5]) 4 (by omega) (by simp; omega)
 have s3:=pad_step (k+4) n (x++[lenB n 7]++[lenB n 6]++[lenB n 5]++[lenB n 4]) 3 (by omega) (by simp; omega)
 have s2:=pad_step (k+3) n (x++[lenB n 7]++[lenB n 6]++[lenB n 5]++[lenB n 4]++[lenB n 3]) 2 (by omega) (by simp; omega)
 have s1:=pad_step (k+2) n (x++[lenB n 7]++[lenB n 6]++[lenB n 5]++[lenB n 4]++[lenB n 3]++[lenB n 2]) 1 (by omega) (by simp; omega)
 have s0:=pad_step (k+1) n (x++[lenB n 7]++[lenB n 6]++[lenB n 5]++[lenB n 4]++[lenB n 3]++[lenB n 2]++[lenB n 1]) 0 (by omega) (by simp; omega)
 have se:=pad_end k n (x++[lenB n 7]++[lenB n 6]++[lenB n 5]++[lenB n 4]++[lenB n 3]++[lenB n 2]++[lenB n 1]++[lenB n 0])
 refine (s7.trans (s6.trans (s5.trans (s4.trans (s3.trans (s2.trans (s1.trans (s0.trans se)))))))).trans ?_
 simp [lenL]
theorem l0_succ (K:Nat) (n:Int) (x:List Int):PAll.sha_Pad.l0 (K+1) n x=if (Int.tmod (wrap64 ((wrap64 (n+(x.length:Int)))+8)) 64)=0 then (PAll.sha_Pad.l1 K n x 7) else (if x.length<140737488355328 then (PAll.sha_Pad.l0 K n (x++[0])) else (none)):=by
 simp only [PAll.sha_Pad.l0]
theorem pad_l0 (n:Int):∀ (z k:Nat) (x:List Int),x.length+z<1000→padZ (n+x.length)=z→PAll.sha_Pad.l0 (k+z+10) n x=some (strOfNums (x++List.replicate z 0++lenL n)):=by
 intro z
 induction z with
 | zero =>
  intro k x hx hz
  rw [show k+0+10=(k+9)+1 from by omega,l0_succ,if_pos ((pad_cond n x.length).2 (by unfold padZ at hz; omega)),pad_l1 k n x (by omega)]
  simp
 | succ z ih =>
  intro k x hx hz
  rw [show k+(z+1)+10=(k+z+10)+1 from by omega,l0_succ]
  have hne:¬ (Int.tmod (wrap64 ((wrap64 (n+(x.length:Int)))+8)) 64)=0:=by
   rw [pad_cond]; unfold padZ at hz; omega
  rw [if_neg hne,if_pos (by omega)]
  have:=ih k (x++[0]) (by simp; omega) (by unfold padZ at hz ⊢; simp; omega)
  rw [this]
  simp [List.replicate_succ]
theorem padZ_lt (m:Int):padZ m<64:=by unfold padZ; omega
theorem pad_some (n:Int) (h:0≤n):PAll.sha_Pad.f 100 n=some (padB n):=by
 unfold PAll.sha_Pad.f
 rw [if_neg (by omega)]
 have hz:=padZ_lt (n+1)
 have:=pad_l0 n (padZ (n+1)) (90 - padZ (n+1)) [128] (by simp; omega) rfl
 rw [show 90 - padZ (n+1)+padZ (n+1)+10=100 from by omega] at this
 rw [this]
 rfl
theorem size_strOfNums (l:List Int):(strOfNums l).size=l.length:=by simp [strOfNums,ByteArray.size]
theorem padB_size (n:Int):(padB n).size=padZ (n+1)+9:=by
 unfold padB; rw [size_strOfNums]; simp [padL,lenL]
theorem padB_mod (n:Int):(n+(padB n).size) % 64=0:=by rw [padB_size]; unfold padZ; omega
def sumB (s:ByteArray):ByteArray:=strOfNums (textTo (stTo (s++padB s.size) ((s++padB s.size).size / 64)) 8)
def sha_Sum.f (a0:ByteArray):Option ByteArray:=if a0.size≤100000000 then some (sumB a0) else none
theorem sha_Sum.calls (a0:ByteArray) (r:ByteArray) (w:World) {gw:GW w} (h:sha_Sum.f a0=some r) :
 Calls Tryd.prog 20 #[.string a0] w fun e w'=>e=.returned (.string r)∧Below w.heap.size w w':=by
 unfold sha_Sum.f at h
 by_cases h0:a0.size≤100000000
 case neg =>
  rw [if_neg h0] at h
  cases h
 rw [if_pos h0] at h
 obtain rfl:=Option.some.inj h
 have hs:=padB_size a0.size
 have hm:=padB_mod a0.size
 have hl:=padZ_lt ((a0.size:Int)+1)
 exact sum_walk a0 (padB a0.size) 100 _ (pad_some _ (by omega)) (by simp; omega) (by simp; omega) w gw
end Go.Proofs.YtkgijkfcmbpgpaaDoor.Giv
end
