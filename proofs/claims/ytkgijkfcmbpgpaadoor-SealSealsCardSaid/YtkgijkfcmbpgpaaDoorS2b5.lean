import Derived.Test.YtkgijkfcmbpgpaaDoorS2b0
import Derived.Test.YtkgijkfcmbpgpaaDoorS2b1
import Derived.Test.YtkgijkfcmbpgpaaDoorS2b4
section
namespace Go.Proofs.YtkgijkfcmbpgpaaDoor.Giv
open Go.RowKit Go.Proofs.YtkgijkfcmbpgpaaDoorW.PrintWords Go.Proofs.YtkgijkfcmbpgpaaDoorW.PrintLast Go.Proofs.YtkgijkfcmbpgpaaDoorW.PrintMore Go.Proofs.YtkgijkfcmbpgpaaDoor.PSub
set_option linter.unusedVariables false
set_option linter.unusedSimpArgs false
def Turned (w:World) (g:Nat) (L:List Int) (w':World):Prop:=w'.heap[g]? = some (.cells (AK .u8 L) 101 (0,0))∧w.grownBy w' (some g)
theorem grown_drewN {w w':World} {row:Option Nat} (h:w.grownBy w' row) (m:Nat):w.grownBy (w'.drewN m) row:=⟨h.os,h.tape,h.output,h.size,h.block⟩
theorem grown_drew {w w':World} {row:Option Nat} (h:w.grownBy w' row):w.grownBy w'.drew row:=⟨h.os,h.tape,h.output,h.size,h.block⟩
theorem grown_set {w w':World} {g:Nat} (h:w.grownBy w' (some g)) (i:Nat) (v:Value):w.grownBy (w'.setCell ⟨g,i,none⟩ v) (some g) :=
 ⟨h.os,h.tape,h.output,by simpa using h.size,fun k hk hne=>(heap_setCell_other w' ⟨g,i,none⟩ k v (fun e=>hne (by simp at e; rw [← e]))).trans (h.block k hk hne)⟩
theorem grown_refl (w:World) (row:Option Nat):w.grownBy w row:=⟨rfl,rfl,rfl,Nat.le_refl _,fun _ _ _=>rfl⟩
def adS (s K:List Int):Nat→List Int
  | 0=>s
  | k+1=>(adS s K k).set k (Go.bits .xor .u8 ((adS s K k).getD k 0) (K.getD k 0))
theorem adS_len (s K:List Int):∀ k,(adS s K k).length=s.length
 | 0=>rfl
 | k+1=>by simp [adS,adS_len s K k]
theorem add_block (ad:Addr) (i:Nat):(ad.add i).block=ad.block:=by unfold Addr.add; split<;>rfl
set_option maxRecDepth 100000 in
theorem aes_add (s K:List Int) (hs:s.length=16) (g:Nat) (ad:Addr) (n c:Nat) (hn:16≤n) (hne:ad.block≠g) (w:World) (hg:w.heap[g]? = some (.cells (AK .u8 s) 101 (0,0)))
 (hk:∀ i,i<16→w.cell? (ad.add i)=some (.int .u8 (K.getD i 0))) :
 Calls Tryd.prog 98 #[.pointer (some ⟨g,0,none⟩),.slice (some ad) n c] w fun e w'=>e=.returned (.tuple #[])∧Turned w g (adS s K 16) w':=by
 have HK:=zK hk
 have HG:=zK hg
 have HN:=zK hne
 clear hk hg hne
 have hlt:g<w.heap.size:=(Array.getElem?_eq_some_iff.1 HG.out).1
 go_enter Tryd.func98,Tryd.ntmps98
 go_wp2_with fail
 go_loopw [5] (fun v5 wr=>∃ k:Nat,k≤16∧v5=.int .i64 k∧Aside0 (wr.heap[g]? = some (.cells (AK .u8 (adS s K k)) 101 (0,0)))∧Aside0 (w.grownBy wr (some g))) (fun v5 _=>16 - (intOf v5).toNat)
 case atStart=>exact ⟨0,by omega,rfl,HG,⟨grown_refl _ _⟩⟩
 case round =>
  obtain ⟨k,hk,rfl,HX,HW⟩:=hrel
  by_cases hlt2:k<16
  case neg =>
   obtain rfl:k=16:=by omega
   go_wp2
   exact bodyPost_end (results_none rfl _ _ _) rfl ⟨rfl,HX.out,HW.out⟩
  have c1:=AK_cell HX.out k (by rw [adS_len]; omega)
  have c2:wr.cell? (ad.add k)=some (.int .u8 (K.getD k 0)):=HW.out.cell (HK.out k hlt2) (fun e=>HN.out (by rw [add_block] at e; exact Option.some.inj e))
  have c3:=frozen_of_row wr g k _ _ HX.out
  have q0:(0:Int)≤(k:Int):=by omega
  have q1:(k:Int)<16:=by omega
  have q2:(k:Int)<(n:Int):=by omega
  go_wp2_with fail
  go_still_tail 12,(by kernel_rfl)
  go_wp2
  go_roundw
  case rel =>
   refine ⟨k+1,by omega,by go_num,⟨?_⟩,⟨?_⟩⟩
   ·have e:=AK_store (w:=wr) HX.out k (Go.bits .xor .u8 ((adS s K k).getD k 0) (K.getD k 0))
    simp only [List.getD_eq_getElem?_getD] at e
    simp only [adS,List.getD_eq_getElem?_getD]
    exact e
   ·exact grown_drew (grown_set HW.out _ _)
  case measure=>simp [intOf]; omega
def shJ (k:Nat):Nat:=(k+k % 4 * 4) % 16
def shS (s t:List Int):Nat→List Int
  | 0=>s
  | k+1=>(shS s t k).set k (t.getD (s.getD (shJ k) 0).toNat 0)
theorem shS_len (s t:List Int):∀ k,(shS s t k).length=s.length
 | 0=>rfl
 | k+1=>by simp [shS,shS_len s t k]
def U8s (s:List Int):Prop:=∀ x∈s,U8 x
theorem U8s.at {s:List Int} (h:U8s s) (i:Nat):U8 (s.getD i 0):=by
 by_cases hi:i<s.length
 case pos =>
  simp [hi]; exact h _ (List.getElem_mem hi)
 simp [List.getD_eq_getElem?_getD,show s[i]? = none by simp; omega]; unfold U8; omega
set_option maxHeartbeats 1000000 in
set_option maxRecDepth 100000 in
theorem aes_shift (s t:List Int) (hs:s.length=16) (hb:U8s s) (ht:t.length=256) (g:Nat) (w:World) (hg:w.heap[g]? = some (.cells (AK .u8 s) 101 (0,0))) :
 Calls Tryd.prog 99 #[.pointer (some ⟨g,0,none⟩),.agg (AK .u8 t)] w fun e w'=>e=.returned (.tuple #[])∧Turned w g (shS s t 16) w':=by
 have HG:=zK hg
 have HS:=zK hs
 have HT:=zK ht
 have HBs:=zK hb
 clear hg hs ht hb
 have hlt:g<w.heap.size:=(Array.getElem?_eq_some_iff.1 HG.out).1
 have HG1:=zK ((heap_alloc_old w (.cells (AK .u8 t) 97) hlt).trans HG.out)
 go_enter Tryd.func99,Tryd.ntmps99
 have HZ:=zK (heap_alloc2_new w (.cells (AK .u8 t) 97) (.cells (AK .u8 [0,0,0,0,0,0,0,0,0,0,0,0,0,0,0,0]) 101))
 have HT0:=zK (heap_alloc2_old w (.cells (AK .u8 t) 97) (.cells (AK .u8 [0,0,0,0,0,0,0,0,0,0,0,0,0,0,0,0]) 101))
 have HG2:=zK ((heap_alloc_old (w.alloc (.cells (AK .u8 t) 97)) (.cells (AK .u8 [0,0,0,0,0,0,0,0,0,0,0,0,0,0,0,0]) 101) (by simp; omega)).trans HG1.out)
 go_wp2_with (first|(refine wpList_load_row rfl 101 (.tmp 7) rfl g rfl 101 (AK .u8 s) (0,0) _ HG1.out Tryd.underlying101 rfl (by rw [AK_size,HS.out]; kernel_rfl) ?_)|(refine wpList_store_row rfl 101 (.tmp 4) (.tmp 8) rfl (w.heap.size+1) (AK .u8 s) rfl rfl 101 (AK .u8 [0,0,0,0,0,0,0,0,0,0,0,0,0,0,0,0]) HZ.out (by rw [AK_size,HS.out]; kernel_rfl) (by rw [AK_size,AK_size,HS.out]; rfl) (AK_one _ _) ?_))
 have F1:(((w.alloc (.cells (AK .u8 t) 97)).alloc (.cells (AK .u8 [0,0,0,0,0,0,0,0,0,0,0,0,0,0,0,0]) 101)).setRow (w.heap.size+1) (AK .u8 s)).heap[w.heap.size+1]? = some (.cells (AK .u8 s) 101 (0,0)):=setRow_heap _ _ _ _ _ _ HZ.out
 have F0:(((w.alloc (.cells (AK .u8 t) 97)).alloc (.cells (AK .u8 [0,0,0,0,0,0,0,0,0,0,0,0,0,0,0,0]) 101)).setRow (w.heap.size+1) (AK .u8 s)).heap[w.heap.size]? = some (.cells (AK .u8 t) 97 (0,0)):=(setRow_other _ _ _ _ (by omega)).trans HT0.out
 have FG:(((w.alloc (.cells (AK .u8 t) 97)).alloc (.cells (AK .u8 [0,0,0,0,0,0,0,0,0,0,0,0,0,0,0,0]) 101)).setRow (w.heap.size+1) (AK .u8 s)).heap[g]? = some (.cells (AK .u8 s) 101 (0,0)):=(setRow_other _ _ _ _ (by omega)).trans HG2.out
 have HX1:=zK F1
 have HX0:=zK F0
 have HXG:=zK FG
 have HW0:Aside0 (w.grownBy (((w.alloc (.cells (AK .u8 t) 97)).alloc (.cells (AK .u8 [0,0,0,0,0,0,0,0,0,0,0,0,0,0,0,0]) 101)).setRow (w.heap.size+1) (AK .u8 s)) (some g)):=⟨⟨rfl,rfl,rfl,by simp; omega,fun k hk _=>(setRow_other _ _ _ _ (by omega)).trans ((heap_alloc_old _ _ (by simp; omega)).trans (heap_alloc_old _ _ hk))⟩⟩
 clear F0 F1 FG HG1 HZ HT0 HG2 HG
 go_loopw [9] (fun v9 wr=>∃ k:Nat,k≤16∧v9=.int .i64 k∧Aside0 (wr.heap[g]? = some (.cells (AK .u8 (shS s t k)) 101 (0,0)))∧Aside0 (wr.heap[w.heap.size]? = some (.cells (AK .u8 t) 97 (0,0)))∧Aside0 (wr.heap[w.heap.size+1]? = some (.cells (AK .u8 s) 101 (0,0)))∧Aside0 (w.grownBy wr (some g))) (fun v9 _=>16 - (intOf v9).toNat)
 case atStart=>exact ⟨0,by omega,rfl,HXG,HX0,HX1,HW0⟩
 case round =>
  clear HXG HX0 HX1 HW0
  obtain ⟨k,hk,rfl,HXG,HX0,HX1,HW⟩:=hrel
  by_cases hlt2:k<16
  case neg =>
   obtain rfl:k=16:=by omega
   go_wp2
   exact bodyPost_end (results_none rfl _ _ _) rfl ⟨rfl,HXG.out,HW.out⟩
  have h16:k=0∨k=1∨k=2∨k=3∨k=4∨k=5∨k=6∨k=7∨k=8∨k=9∨k=10∨k=11∨k=12∨k=13∨k=14∨k=15:=by omega
  rcases h16 with rfl|rfl|rfl|rfl|rfl|rfl|rfl|rfl|rfl|rfl|rfl|rfl|rfl|rfl|rfl|rfl
  ·have hu:=HBs.out.at 0
   have e0_:IntKind.i64.wrap 0=0:=rfl
   have c1:=AK_cell HX1.out 0 (by rw [HS.out]; decide)
   obtain ⟨x,hx⟩:∃ x,x=s.getD 0 0:=⟨_,rfl⟩
   rw [← hx] at hu c1
   have c2:=AK_cell HX0.out x.toNat (by rw [HT.out]; unfold U8 at hu; omega)
   obtain ⟨y,hy⟩:∃ y,y=t.getD x.toNat 0:=⟨_,rfl⟩
   rw [← hy] at c2
   have HYY:=zK (show y=t.getD (s.getD 0 0).toNat 0 by rw [hy,hx])
   clear hx hy
   have c3:=AK_cell HXG.out 0 (by rw [shS_len,HS.out]; decide)
   have c4:=frozen_of_row wr g 0 _ _ HXG.out
   have u0:=hu.1
   have u1:=hu.2
   clear hu
   go_wp2_with fail
   go_still_tail 14,(by kernel_rfl)
   go_wp2
   go_roundw
   case rel =>
    refine ⟨0+1,by omega,by go_num,⟨?_⟩,⟨?_⟩,⟨?_⟩,⟨?_⟩⟩
    ·have e:=AK_store (w:=wr) HXG.out 0 y
     have e3:(shS s t 0).set 0 y=shS s t (0+1):=by rw [HYY.out]; rfl
     rw [e3] at e
     exact e
    ·exact (heap_setCell_other wr _ _ _ (by simp; omega)).trans HX0.out
    ·exact (heap_setCell_other wr _ _ _ (by simp; omega)).trans HX1.out
    ·exact grown_drew (grown_set HW.out _ _)
   case measure=>simp [intOf]
  ·have hu:=HBs.out.at 5
   have e4_:IntKind.i64.wrap 4=4:=rfl
   have e5_:IntKind.i64.wrap 5=5:=rfl
   have c1:=AK_cell HX1.out 5 (by rw [HS.out]; decide)
   obtain ⟨x,hx⟩:∃ x,x=s.getD 5 0:=⟨_,rfl⟩
   rw [← hx] at hu c1
   have c2:=AK_cell HX0.out x.toNat (by rw [HT.out]; unfold U8 at hu; omega)
   obtain ⟨y,hy⟩:∃ y,y=t.getD x.toNat 0:=⟨_,rfl⟩
   rw [← hy] at c2
   have HYY:=zK (show y=t.getD (s.getD 5 0).toNat 0 by rw [hy,hx])
   clear hx hy
   have c3:=AK_cell HXG.out 1 (by rw [shS_len,HS.out]; decide)
   have c4:=frozen_of_row wr g 1 _ _ HXG.out
   have u0:=hu.1
   have u1:=hu.2
   clear hu
   go_wp2_with fail
   go_still_tail 14,(by kernel_rfl)
   go_wp2
   go_roundw
   case rel =>
    refine ⟨1+1,by omega,by go_num,⟨?_⟩,⟨?_⟩,⟨?_⟩,⟨?_⟩⟩
    ·have e:=AK_store (w:=wr) HXG.out 1 y
     have e3:(shS s t 1).set 1 y=shS s t (1+1):=by rw [HYY.out]; rfl
     rw [e3] at e
     exact e
    ·exact (heap_setCell_other wr _ _ _ (by simp; omega)).trans HX0.out
    ·exact (heap_setCell_other wr _ _ _ (by simp; omega)).trans HX1.out
    ·exact grown_drew (grown_set HW.out _ _)
   case measure=>simp [intOf]
  ·have hu:=HBs.out.at 10
   have e8_:IntKind.i64.wrap 8=8:=rfl
   have e10_:IntKind.i64.wrap 10=10:=rfl
   have c1:=AK_cell HX1.out 10 (by rw [HS.out]; decide)
   obtain ⟨x,hx⟩:∃ x,x=s.getD 10 0:=⟨_,rfl⟩
   rw [← hx] at hu c1
   have c2:=AK_cell HX0.out x.toNat (by rw [HT.out]; unfold U8 at hu; omega)
   obtain ⟨y,hy⟩:∃ y,y=t.getD x.toNat 0:=⟨_,rfl⟩
   rw [← hy] at c2
   have HYY:=zK (show y=t.getD (s.getD 10 0).toNat 0 by rw [hy,hx])
   clear hx hy
   have c3:=AK_cell HXG.out 2 (by rw [shS_len,HS.out]; decide)
   have c4:=frozen_of_row wr g 2 _ _ HXG.out
   have u0:=hu.1
   have u1:=hu.2
   clear hu
   go_wp2_with fail
   go_still_tail 14,(by kernel_rfl)
   go_wp2
   go_roundw
   case rel =>
    refine ⟨2+1,by omega,by go_num,⟨?_⟩,⟨?_⟩,⟨?_⟩,⟨?_⟩⟩
    ·have e:=AK_store (w:=wr) HXG.out 2 y
     have e3:(shS s t 2).set 2 y=shS s t (2+1):=by rw [HYY.out]; rfl
     rw [e3] at e
     exact e
    ·exact (heap_setCell_other wr _ _ _ (by simp; omega)).trans HX0.out
    ·exact (heap_setCell_other wr _ _ _ (by simp; omega)).trans HX1.out
    ·exact grown_drew (grown_set HW.out _ _)
   case measure=>simp [intOf]
  ·have hu:=HBs.out.at 15
   have e12_:IntKind.i64.wrap 12=12:=rfl
   have e15_:IntKind.i64.wrap 15=15:=rfl
   have c1:=AK_cell HX1.out 15 (by rw [HS.out]; decide)
   obtain ⟨x,hx⟩:∃ x,x=s.getD 15 0:=⟨_,rfl⟩
   rw [← hx] at hu c1
   have c2:=AK_cell HX0.out x.toNat (by rw [HT.out]; unfold U8 at hu; omega)
   obtain ⟨y,hy⟩:∃ y,y=t.getD x.toNat 0:=⟨_,rfl⟩
   rw [← hy] at c2
   have HYY:=zK (show y=t.getD (s.getD 15 0).toNat 0 by rw [hy,hx])
   clear hx hy
   have c3:=AK_cell HXG.out 3 (by rw [shS_len,HS.out]; decide)
   have c4:=frozen_of_row wr g 3 _ _ HXG.out
   have u0:=hu.1
   have u1:=hu.2
   clear hu
   go_wp2_with fail
   go_still_tail 14,(by kernel_rfl)
   go_wp2
   go_roundw
   case rel =>
    refine ⟨3+1,by omega,by go_num,⟨?_⟩,⟨?_⟩,⟨?_⟩,⟨?_⟩⟩
    ·have e:=AK_store (w:=wr) HXG.out 3 y
     have e3:(shS s t 3).set 3 y=shS s t (3+1):=by rw [HYY.out]; rfl
     rw [e3] at e
     exact e
    ·exact (heap_setCell_other wr _ _ _ (by simp; omega)).trans HX0.out
    ·exact (heap_setCell_other wr _ _ _ (by simp; omega)).trans HX1.out
    ·exact grown_drew (grown_set HW.out _ _)
   case measure=>simp [intOf]
  ·have hu:=HBs.out.at 4
   have e0_:IntKind.i64.wrap 0=0:=rfl
   have e4_:IntKind.i64.wrap 4=4:=rfl
   have c1:=AK_cell HX1.out 4 (by rw [HS.out]; decide)
   obtain ⟨x,hx⟩:∃ x,x=s.getD 4 0:=⟨_,rfl⟩
   rw [← hx] at hu c1
   have c2:=AK_cell HX0.out x.toNat (by rw [HT.out]; unfold U8 at hu; omega)
   obtain ⟨y,hy⟩:∃ y,y=t.getD x.toNat 0:=⟨_,rfl⟩
   rw [← hy] at c2
   have HYY:=zK (show y=t.getD (s.getD 4 0).toNat 0 by rw [hy,hx])
   clear hx hy
   have c3:=AK_cell HXG.out 4 (by rw [shS_len,HS.out]; decide)
   have c4:=frozen_of_row wr g 4 _ _ HXG.out
   have u0:=hu.1
   have u1:=hu.2
   clear hu
   go_wp2_with fail
   go_still_tail 14,(by kernel_rfl)
   go_wp2
   go_roundw
   case rel =>
    refine ⟨4+1,by omega,by go_num,⟨?_⟩,⟨?_⟩,⟨?_⟩,⟨?_⟩⟩
    ·have e:=AK_store (w:=wr) HXG.out 4 y
     have e3:(shS s t 4).set 4 y=shS s t (4+1):=by rw [HYY.out]; rfl
     rw [e3] at e
     exact e
    ·exact (heap_setCell_other wr _ _ _ (by simp; omega)).trans HX0.out
    ·exact (heap_setCell_other wr _ _ _ (by simp; omega)).trans HX1.out
    ·exact grown_drew (grown_set HW.out _ _)
   case measure=>simp [intOf]
  ·have hu:=HBs.out.at 9
   have e4_:IntKind.i64.wrap 4=4:=rfl
   have e9_:IntKind.i64.wrap 9=9:=rfl
   have c1:=AK_cell HX1.out 9 (by rw [HS.out]; decide)
   obtain ⟨x,hx⟩:∃ x,x=s.getD 9 0:=⟨_,rfl⟩
   rw [← hx] at hu c1
   have c2:=AK_cell HX0.out x.toNat (by rw [HT.out]; unfold U8 at hu; omega)
   obtain ⟨y,hy⟩:∃ y,y=t.getD x.toNat 0:=⟨_,rfl⟩
   rw [← hy] at c2
   have HYY:=zK (show y=t.getD (s.getD 9 0).toNat 0 by rw [hy,hx])
   clear hx hy
   have c3:=AK_cell HXG.out 5 (by rw [shS_len,HS.out]; decide)
   have c4:=frozen_of_row wr g 5 _ _ HXG.out
   have u0:=hu.1
   have u1:=hu.2
   clear hu
   go_wp2_with fail
   go_still_tail 14,(by kernel_rfl)
   go_wp2
   go_roundw
   case rel =>
    refine ⟨5+1,by omega,by go_num,⟨?_⟩,⟨?_⟩,⟨?_⟩,⟨?_⟩⟩
    ·have e:=AK_store (w:=wr) HXG.out 5 y
     have e3:(shS s t 5).set 5 y=shS s t (5+1):=by rw [HYY.out]; rfl
     rw [e3] at e
     exact e
    ·exact (heap_setCell_other wr _ _ _ (by simp; omega)).trans HX0.out
    ·exact (heap_setCell_other wr _ _ _ (by simp; omega)).trans HX1.out
    ·exact grown_drew (grown_set HW.out _ _)
   case measure=>simp [intOf]
  ·have hu:=HBs.out.at 14
   have e8_:IntKind.i64.wrap 8=8:=rfl
   have e14_:IntKind.i64.wrap 14=14:=rfl
   have c1:=AK_cell HX1.out 14 (by rw [HS.out]; decide)
   obtain ⟨x,hx⟩:∃ x,x=s.getD 14 0:=⟨_,rfl⟩
   rw [← hx] at hu c1
   have c2:=AK_cell HX0.out x.toNat (by rw [HT.out]; unfold U8 at hu; omega)
   obtain ⟨y,hy⟩:∃ y,y=t.getD x.toNat 0:=⟨_,rfl⟩
   rw [← hy] at c2
   have HYY:=zK (show y=t.getD (s.getD 14 0).toNat 0 by rw [hy,hx])
   clear hx hy
   have c3:=AK_cell HXG.out 6 (by rw [shS_len,HS.out]; decide)
   have c4:=frozen_of_row wr g 6 _ _ HXG.out
   have u0:=hu.1
   have u1:=hu.2
   clear hu
   go_wp2_with fail
   go_still_tail 14,(by kernel_rfl)
   go_wp2
   go_roundw
   case rel =>
    refine ⟨6+1,by omega,by go_num,⟨?_⟩,⟨?_⟩,⟨?_⟩,⟨?_⟩⟩
    ·have e:=AK_store (w:=wr) HXG.out 6 y
     have e3:(shS s t 6).set 6 y=shS s t (6+1):=by rw [HYY.out]; rfl
     rw [e3] at e
     exact e
    ·exact (heap_setCell_other wr _ _ _ (by simp; omega)).trans HX0.out
    ·exact (heap_setCell_other wr _ _ _ (by simp; omega)).trans HX1.out
    ·exact grown_drew (grown_set HW.out _ _)
   case measure=>simp [intOf]
  ·have hu:=HBs.out.at 3
   have e12_:IntKind.i64.wrap 12=12:=rfl
   have e19_:IntKind.i64.wrap 19=19:=rfl
   have c1:=AK_cell HX1.out 3 (by rw [HS.out]; decide)
   obtain ⟨x,hx⟩:∃ x,x=s.getD 3 0:=⟨_,rfl⟩
   rw [← hx] at hu c1
   have c2:=AK_cell HX0.out x.toNat (by rw [HT.out]; unfold U8 at hu; omega)
   obtain ⟨y,hy⟩:∃ y,y=t.getD x.toNat 0:=⟨_,rfl⟩
   rw [← hy] at c2
   have HYY:=zK (show y=t.getD (s.getD 3 0).toNat 0 by rw [hy,hx])
   clear hx hy
   have c3:=AK_cell HXG.out 7 (by rw [shS_len,HS.out]; decide)
   have c4:=frozen_of_row wr g 7 _ _ HXG.out
   have u0:=hu.1
   have u1:=hu.2
   clear hu
   go_wp2_with fail
   go_still_tail 14,(by kernel_rfl)
   go_wp2
   go_roundw
   case rel =>
    refine ⟨7+1,by omega,by go_num,⟨?_⟩,⟨?_⟩,⟨?_⟩,⟨?_⟩⟩
    ·have e:=AK_store (w:=wr) HXG.out 7 y
     have e3:(shS s t 7).set 7 y=shS s t (7+1):=by rw [HYY.out]; rfl
     rw [e3] at e
     exact e
    ·exact (heap_setCell_other wr _ _ _ (by simp; omega)).trans HX0.out
    ·exact (heap_setCell_other wr _ _ _ (by simp; omega)).trans HX1.out
    ·exact grown_drew (grown_set HW.out _ _)
   case measure=>simp [intOf]
  ·have hu:=HBs.out.at 8
   have e0_:IntKind.i64.wrap 0=0:=rfl
   have e8_:IntKind.i64.wrap 8=8:=rfl
   have c1:=AK_cell HX1.out 8 (by rw [HS.out]; decide)
   obtain ⟨x,hx⟩:∃ x,x=s.getD 8 0:=⟨_,rfl⟩
   rw [← hx] at hu c1
   have c2:=AK_cell HX0.out x.toNat (by rw [HT.out]; unfold U8 at hu; omega)
   obtain ⟨y,hy⟩:∃ y,y=t.getD x.toNat 0:=⟨_,rfl⟩
   rw [← hy] at c2
   have HYY:=zK (show y=t.getD (s.getD 8 0).toNat 0 by rw [hy,hx])
   clear hx hy
   have c3:=AK_cell HXG.out 8 (by rw [shS_len,HS.out]; decide)
   have c4:=frozen_of_row wr g 8 _ _ HXG.out
   have u0:=hu.1
   have u1:=hu.2
   clear hu
   go_wp2_with fail
   go_still_tail 14,(by kernel_rfl)
   go_wp2
   go_roundw
   case rel =>
    refine ⟨8+1,by omega,by go_num,⟨?_⟩,⟨?_⟩,⟨?_⟩,⟨?_⟩⟩
    ·have e:=AK_store (w:=wr) HXG.out 8 y
     have e3:(shS s t 8).set 8 y=shS s t (8+1):=by rw [HYY.out]; rfl
     rw [e3] at e
     exact e
    ·exact (heap_setCell_other wr _ _ _ (by simp; omega)).trans HX0.out
    ·exact (heap_setCell_other wr _ _ _ (by simp; omega)).trans HX1.out
    ·exact grown_drew (grown_set HW.out _ _)
   case measure=>simp [intOf]
  ·have hu:=HBs.out.at 13
   have e4_:IntKind.i64.wrap 4=4:=rfl
   have e13_:IntKind.i64.wrap 13=13:=rfl
   have c1:=AK_cell HX1.out 13 (by rw [HS.out]; decide)
   obtain ⟨x,hx⟩:∃ x,x=s.getD 13 0:=⟨_,rfl⟩
   rw [← hx] at hu c1
   have c2:=AK_cell HX0.out x.toNat (by rw [HT.out]; unfold U8 at hu; omega)
   obtain ⟨y,hy⟩:∃ y,y=t.getD x.toNat 0:=⟨_,rfl⟩
   rw [← hy] at c2
   have HYY:=zK (show y=t.getD (s.getD 13 0).toNat 0 by rw [hy,hx])
   clear hx hy
   have c3:=AK_cell HXG.out 9 (by rw [shS_len,HS.out]; decide)
   have c4:=frozen_of_row wr g 9 _ _ HXG.out
   have u0:=hu.1
   have u1:=hu.2
   clear hu
   go_wp2_with fail
   go_still_tail 14,(by kernel_rfl)
   go_wp2
   go_roundw
   case rel =>
    refine ⟨9+1,by omega,by go_num,⟨?_⟩,⟨?_⟩,⟨?_⟩,⟨?_⟩⟩
    ·have e:=AK_store (w:=wr) HXG.out 9 y
     have e3:(shS s t 9).set 9 y=shS s t (9+1):=by rw [HYY.out]; rfl
     rw [e3] at e
     exact e
    ·exact (heap_setCell_other wr _ _ _ (by simp; omega)).trans HX0.out
    ·exact (heap_setCell_other wr _ _ _ (by simp; omega)).trans HX1.out
    ·exact grown_drew (grown_set HW.out _ _)
   case measure=>simp [intOf]
  ·have hu:=HBs.out.at 2
   have e8_:IntKind.i64.wrap 8=8:=rfl
   have e18_:IntKind.i64.wrap 18=18:=rfl
   have c1:=AK_cell HX1.out 2 (by rw [HS.out]; decide)
   obtain ⟨x,hx⟩:∃ x,x=s.getD 2 0:=⟨_,rfl⟩
   rw [← hx] at hu c1
   have c2:=AK_cell HX0.out x.toNat (by rw [HT.out]; unfold U8 at hu; omega)
   obtain ⟨y,hy⟩:∃ y,y=t.getD x.toNat 0:=⟨_,rfl⟩
   rw [← hy] at c2
   have HYY:=zK (show y=t.getD (s.getD 2 0).toNat 0 by rw [hy,hx])
   clear hx hy
   have c3:=AK_cell HXG.out 10 (by rw [shS_len,HS.out]; decide)
   have c4:=frozen_of_row wr g 10 _ _ HXG.out
   have u0:=hu.1
   have u1:=hu.2
   clear hu
   go_wp2_with fail
   go_still_tail 14,(by kernel_rfl)
   go_wp2
   go_roundw
   case rel =>
    refine ⟨10+1,by omega,by go_num,⟨?_⟩,⟨?_⟩,⟨?_⟩,⟨?_⟩⟩
    ·have e:=AK_store (w:=wr) HXG.out 10 y
     have e3:(shS s t 10).set 10 y=shS s t (10+1):=by rw [HYY.out]; rfl
     rw [e3] at e
     exact e
    ·exact (heap_setCell_other wr _ _ _ (by simp; omega)).trans HX0.out
    ·exact (heap_setCell_other wr _ _ _ (by simp; omega)).trans HX1.out
    ·exact grown_drew (grown_set HW.out _ _)
   case measure=>simp [intOf]
  ·have hu:=HBs.out.at 7
   have e12_:IntKind.i64.wrap 12=12:=rfl
   have e23_:IntKind.i64.wrap 23=23:=rfl
   have c1:=AK_cell HX1.out 7 (by rw [HS.out]; decide)
   obtain ⟨x,hx⟩:∃ x,x=s.getD 7 0:=⟨_,rfl⟩
   rw [← hx] at hu c1
   have c2:=AK_cell HX0.out x.toNat (by rw [HT.out]; unfold U8 at hu; omega)
   obtain ⟨y,hy⟩:∃ y,y=t.getD x.toNat 0:=⟨_,rfl⟩
   rw [← hy] at c2
   have HYY:=zK (show y=t.getD (s.getD 7 0).toNat 0 by rw [hy,hx])
   clear hx hy
   have c3:=AK_cell HXG.out 11 (by rw [shS_len,HS.out]; decide)
   have c4:=frozen_of_row wr g 11 _ _ HXG.out
   have u0:=hu.1
   have u1:=hu.2
   clear hu
   go_wp2_with fail
   go_still_tail 14,(by kernel_rfl)
   go_wp2
   go_roundw
   case rel =>
    refine ⟨11+1,by omega,by go_num,⟨?_⟩,⟨?_⟩,⟨?_⟩,⟨?_⟩⟩
    ·have e:=AK_store (w:=wr) HXG.out 11 y
     have e3:(shS s t 11).set 11 y=shS s t (11+1):=by rw [HYY.out]; rfl
     rw [e3] at e
     exact e
    ·exact (heap_setCell_other wr _ _ _ (by simp; omega)).trans HX0.out
    ·exact (heap_setCell_other wr _ _ _ (by simp; omega)).trans HX1.out
    ·exact grown_drew (grown_set HW.out _ _)
   case measure=>simp [intOf]
  ·have hu:=HBs.out.at 12
   have e0_:IntKind.i64.wrap 0=0:=rfl
   have e12_:IntKind.i64.wrap 12=12:=rfl
   have c1:=AK_cell HX1.out 12 (by rw [HS.out]; decide)
   obtain ⟨x,hx⟩:∃ x,x=s.getD 12 0:=⟨_,rfl⟩
   rw [← hx] at hu c1
   have c2:=AK_cell HX0.out x.toNat (by rw [HT.out]; unfold U8 at hu; omega)
   obtain ⟨y,hy⟩:∃ y,y=t.getD x.toNat 0:=⟨_,rfl⟩
   rw [← hy] at c2
   have HYY:=zK (show y=t.getD (s.getD 12 0).toNat 0 by rw [hy,hx])
   clear hx hy
   have c3:=AK_cell HXG.out 12 (by rw [shS_len,HS.out]; decide)
   have c4:=frozen_of_row wr g 12 _ _ HXG.out
   have u0:=hu.1
   have u1:=hu.2
   clear hu
   go_wp2_with fail
   go_still_tail 14,(by kernel_rfl)
   go_wp2
   go_roundw
   case rel =>
    refine ⟨12+1,by omega,by go_num,⟨?_⟩,⟨?_⟩,⟨?_⟩,⟨?_⟩⟩
    ·have e:=AK_store (w:=wr) HXG.out 12 y
     have e3:(shS s t 12).set 12 y=shS s t (12+1):=by rw [HYY.out]; rfl
     rw [e3] at e
     exact e
    ·exact (heap_setCell_other wr _ _ _ (by simp; omega)).trans HX0.out
    ·exact (heap_setCell_other wr _ _ _ (by simp; omega)).trans HX1.out
    ·exact grown_drew (grown_set HW.out _ _)
   case measure=>simp [intOf]
  ·have hu:=HBs.out.at 1
   have e4_:IntKind.i64.wrap 4=4:=rfl
   have e17_:IntKind.i64.wrap 17=17:=rfl
   have c1:=AK_cell HX1.out 1 (by rw [HS.out]; decide)
   obtain ⟨x,hx⟩:∃ x,x=s.getD 1 0:=⟨_,rfl⟩
   rw [← hx] at hu c1
   have c2:=AK_cell HX0.out x.toNat (by rw [HT.out]; unfold U8 at hu; omega)
   obtain ⟨y,hy⟩:∃ y,y=t.getD x.toNat 0:=⟨_,rfl⟩
   rw [← hy] at c2
   have HYY:=zK (show y=t.getD (s.getD 1 0).toNat 0 by rw [hy,hx])
   clear hx hy
   have c3:=AK_cell HXG.out 13 (by rw [shS_len,HS.out]; decide)
   have c4:=frozen_of_row wr g 13 _ _ HXG.out
   have u0:=hu.1
   have u1:=hu.2
   clear hu
   go_wp2_with fail
   go_still_tail 14,(by kernel_rfl)
   go_wp2
   go_roundw
   case rel =>
    refine ⟨13+1,by omega,by go_num,⟨?_⟩,⟨?_⟩,⟨?_⟩,⟨?_⟩⟩
    ·have e:=AK_store (w:=wr) HXG.out 13 y
     have e3:(shS s t 13).set 13 y=shS s t (13+1):=by rw [HYY.out]; rfl
     rw [e3] at e
     exact e
    ·exact (heap_setCell_other wr _ _ _ (by simp; omega)).trans HX0.out
    ·exact (heap_setCell_other wr _ _ _ (by simp; omega)).trans HX1.out
    ·exact grown_drew (grown_set HW.out _ _)
   case measure=>simp [intOf]
  ·have hu:=HBs.out.at 6
   have e8_:IntKind.i64.wrap 8=8:=rfl
   have e22_:IntKind.i64.wrap 22=22:=rfl
   have c1:=AK_cell HX1.out 6 (by rw [HS.out]; decide)
   obtain ⟨x,hx⟩:∃ x,x=s.getD 6 0:=⟨_,rfl⟩
   rw [← hx] at hu c1
   have c2:=AK_cell HX0.out x.toNat (by rw [HT.out]; unfold U8 at hu; omega)
   obtain ⟨y,hy⟩:∃ y,y=t.getD x.toNat 0:=⟨_,rfl⟩
   rw [← hy] at c2
   have HYY:=zK (show y=t.getD (s.getD 6 0).toNat 0 by rw [hy,hx])
   clear hx hy
   have c3:=AK_cell HXG.out 14 (by rw [shS_len,HS.out]; decide)
   have c4:=frozen_of_row wr g 14 _ _ HXG.out
   have u0:=hu.1
   have u1:=hu.2
   clear hu
   go_wp2_with fail
   go_still_tail 14,(by kernel_rfl)
   go_wp2
   go_roundw
   case rel =>
    refine ⟨14+1,by omega,by go_num,⟨?_⟩,⟨?_⟩,⟨?_⟩,⟨?_⟩⟩
    ·have e:=AK_store (w:=wr) HXG.out 14 y
     have e3:(shS s t 14).set 14 y=shS s t (14+1):=by rw [HYY.out]; rfl
     rw [e3] at e
     exact e
    ·exact (heap_setCell_other wr _ _ _ (by simp; omega)).trans HX0.out
    ·exact (heap_setCell_other wr _ _ _ (by simp; omega)).trans HX1.out
    ·exact grown_drew (grown_set HW.out _ _)
   case measure=>simp [intOf]
  ·have hu:=HBs.out.at 11
   have e12_:IntKind.i64.wrap 12=12:=rfl
   have e27_:IntKind.i64.wrap 27=27:=rfl
   have c1:=AK_cell HX1.out 11 (by rw [HS.out]; decide)
   obtain ⟨x,hx⟩:∃ x,x=s.getD 11 0:=⟨_,rfl⟩
   rw [← hx] at hu c1
   have c2:=AK_cell HX0.out x.toNat (by rw [HT.out]; unfold U8 at hu; omega)
   obtain ⟨y,hy⟩:∃ y,y=t.getD x.toNat 0:=⟨_,rfl⟩
   rw [← hy] at c2
   have HYY:=zK (show y=t.getD (s.getD 11 0).toNat 0 by rw [hy,hx])
   clear hx hy
   have c3:=AK_cell HXG.out 15 (by rw [shS_len,HS.out]; decide)
   have c4:=frozen_of_row wr g 15 _ _ HXG.out
   have u0:=hu.1
   have u1:=hu.2
   clear hu
   go_wp2_with fail
   go_still_tail 14,(by kernel_rfl)
   go_wp2
   go_roundw
   case rel =>
    refine ⟨15+1,by omega,by go_num,⟨?_⟩,⟨?_⟩,⟨?_⟩,⟨?_⟩⟩
    ·have e:=AK_store (w:=wr) HXG.out 15 y
     have e3:(shS s t 15).set 15 y=shS s t (15+1):=by rw [HYY.out]; rfl
     rw [e3] at e
     exact e
    ·exact (heap_setCell_other wr _ _ _ (by simp; omega)).trans HX0.out
    ·exact (heap_setCell_other wr _ _ _ (by simp; omega)).trans HX1.out
    ·exact grown_drew (grown_set HW.out _ _)
   case measure=>simp [intOf]
end Go.Proofs.YtkgijkfcmbpgpaaDoor.Giv
end
