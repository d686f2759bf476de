import Derived.Test.YtkgijkfcmbpgpaaDoorS2b0
import Derived.Test.YtkgijkfcmbpgpaaDoorS2b1
import Derived.Test.YtkgijkfcmbpgpaaDoorS2b2
import Derived.Test.YtkgijkfcmbpgpaaDoorS2b3
import Derived.Test.YtkgijkfcmbpgpaaDoorS2b4
import Derived.Test.YtkgijkfcmbpgpaaDoorS2b7
section
namespace Go.Proofs.YtkgijkfcmbpgpaaDoor.Giv
open Go.RowKit Go.Shelf Go.Proofs.YtkgijkfcmbpgpaaDoorW.PrintWords Go.Proofs.YtkgijkfcmbpgpaaDoorW.PrintLast Go.Proofs.YtkgijkfcmbpgpaaDoorW.PrintMore Go.Proofs.YtkgijkfcmbpgpaaDoor.PSub
set_option linter.unusedVariables false
set_option linter.unusedSimpArgs false
attribute [local go_sem] Oper.semAt_some
def numB (i:Nat):ByteArray:=strOfNums [(i:Int) / 16777216 % 256,(i:Int) / 65536 % 256,(i:Int) / 256 % 256,(i:Int) % 256]
theorem numB_size (i:Nat):(numB i).size=4:=by simp [numB,strOfNums,ByteArray.size]
def ctrBlk (key nonce:ByteArray) (i:Nat):ByteArray:=encB key (nonce++numB i)
def ctrPre (key nonce:ByteArray) (n:Nat):List ByteArray:=(List.range n).map (ctrBlk key nonce)
theorem ctrPre_succ (key nonce:ByteArray) (n:Nat):ctrPre key nonce (n+1)=ctrPre key nonce n++[ctrBlk key nonce n]:=by simp [ctrPre,List.range_succ]
def KpB (b:Nat) (W W':World):Prop:=∀ (k:Nat) (c:Array Value) (T:TypeId) (fz:Nat×Nat),k≠b→T≠5→W.heap[k]? = some (.cells c T fz)→W'.heap[k]? = some (.cells c T fz)
theorem KpB.trans {b:Nat} {A B C:World} (h:KpB b A B) (k:KpB b B C):KpB b A C:=fun j c T fz h1 h2 h3=>k j c T fz h1 h2 (h j c T fz h1 h2 h3)
theorem KpB.of_below {b n:Nat} {A B:World} (h:Below A.heap.size A B):KpB b A B:=fun k c T fz _ _ hc=>(h.block k (Array.getElem?_eq_some_iff.1 hc).1).trans hc
theorem kpb_loop (b:Nat) (W:World) (l:Nat) (o:Obj) (r:Loop) (h:W.heap[l]? = some (.loop r)):KpB b W (W.putObj l o):=by
 intro k c T fz _ _ hc
 refine (World.putObj_heap_other (fun e=>?_)).trans hc
 subst e
 rw [h] at hc
 cases hc
def BoxS (W:World) (b:Nat) (s:ByteArray):Prop:=W.heap[b]? = some (.cells #[.string s] 9 (0,0))
theorem BoxS.cell {W:World} {b:Nat} {s:ByteArray} (h:BoxS W b s):W.cell? ⟨b,0,none⟩=some (.string s):=(cell_of_row W b 0 _ _ _ h).trans rfl
theorem BoxS.kept {W W':World} {b b0:Nat} {s:ByteArray} (h:BoxS W b s) (hb:b≠b0) (hk:KpB b0 W W'):BoxS W' b s:=hk b _ _ _ hb (by decide) h
theorem BoxS.below {W W':World} {b n:Nat} {s:ByteArray} (h:BoxS W b s) (hn:W.heap.size≤n) (hk:Below n W W'):BoxS W' b s:=(hk.block b (Nat.lt_of_lt_of_le (Array.getElem?_eq_some_iff.1 h).1 hn)).trans h
theorem num_string (W:World) (a b c d:Int):(convert 44 9 (.slice (some ⟨W.heap.size,0,none⟩) 4 4)).run Tryd.prog (W.alloc (.cells #[.int .u8 a,.int .u8 b,.int .u8 c,.int .u8 d] 5))=.ok (.string (strOfNums [a,b,c,d])) (W.alloc (.cells #[.int .u8 a,.int .u8 b,.int .u8 c,.int .u8 d] 5)):=by
 refine run_convert_bytes_arg _ 44 5 Tryd.underlying44 Tryd.underlying5 W.heap.size 0 4 4 [a,b,c,d] rfl (fun i hi=>?_) 9 Tryd.underlying9
 have hn:(W.alloc (.cells #[.int .u8 a,.int .u8 b,.int .u8 c,.int .u8 d] 5)).heap[W.heap.size]? = some (.cells #[.int .u8 a,.int .u8 b,.int .u8 c,.int .u8 d] 5):=heap_alloc_new _ _
 rw [cell_of_row _ _ _ _ _ _ hn]
 have hi4:i<4:=hi
 have h4:i=0∨i=1∨i=2∨i=3:=by omega
 rcases h4 with rfl|rfl|rfl|rfl<;>rfl
set_option maxHeartbeats 2000000 in
set_option maxRecDepth 100000 in
theorem ctr_endless (n:Nat) (hn:1≤n) (N:Nat) (hN:N≤1000000) (key nonce:ByteArray) (hk:key.size=16) (hnn:nonce.size=12) (b bk bn:Nat) (h1:bk≠b) (h2:bn≠b) (w:World) (ck:BoxS w bk key) (cn:BoxS w bn nonce) :
 Endless Fence.wide n Tryd.prog 92 #[.pointer (some ⟨bk,0,none⟩),.pointer (some ⟨bn,0,none⟩)] (KpB b) (fun pre x=>x=ctrBlk key nonce pre.length) N (fun pre=>0<pre.length∧pre=ctrPre key nonce pre.length) w:=by
 intro l J Jx W hW hJ hJx hlt hY h0
 have HK0:=zK (ck.below (Nat.le_refl _) hW)
 have HN0:=zK (cn.below (Nat.le_refl _) hW)
 have HJ:=zK hJ
 have HY:=zK hY
 have HL:=zK hlt
 clear hW ck cn hJ hJx hY hlt
 refine callsIn_of_wp Tryd.func92 rfl trivial ?_ rfl
 simp only [Tryd.ntmps92,List.size_toArray,List.length_cons,List.length_nil,Nat.reduceAdd,Nat.reduceSub,Array.replicate_succ,Array.replicate_zero,List.push_toArray,List.append_toArray,List.nil_append,List.cons_append]
 gi_wp2
 gi_loopw [4] (fun v4 wr=>∃ pre:List ByteArray,v4=.int .u32 (pre.length:Int)∧Aside0 (pre=ctrPre key nonce pre.length)∧Aside0 (J pre wr)∧Aside0 (BoxS wr bk key)∧Aside0 (BoxS wr bn nonce)) (fun v4 _=>N - (intOf v4).toNat)
 case atStart=>exact ⟨[],rfl,⟨rfl⟩,⟨h0⟩,HK0,HN0⟩
 case round =>
  clear HK0 HN0
  obtain ⟨pre,rfl,HP,HJ1,HK,HN⟩:=hrel
  have hb:=HL.out pre wr HJ1.out
  have ck:=HK.out.cell
  have cn:=HN.out.cell
  obtain ⟨i,hi⟩:∃ i,i=pre.length:=⟨_,rfl⟩
  rw [← hi] at hb ⊢
  have HI:=zK hi
  clear hi
  gi_wp2
  have e4:strOfNums [(i:Int) / 16777216,(i:Int) / 65536,(i:Int) / 256 % 256,(i:Int) % 256]=numB i:=by
   unfold numB
   congr 1
   simp only [List.cons.injEq,and_true]
   omega
  have kb:=num_string wr ((i:Int) / 16777216) ((i:Int) / 65536) ((i:Int) / 256 % 256) ((i:Int) % 256)
  rw [e4] at kb
  rw [kb]
  clear kb e4 ck cn
  obtain ⟨wa,hwa⟩:∃ wa,wa=wr.alloc (.cells #[.int .u8 ((i:Int) / 16777216),.int .u8 ((i:Int) / 65536),.int .u8 ((i:Int) / 256 % 256),.int .u8 ((i:Int) % 256)] 5):=⟨_,rfl⟩
  rw [← hwa]
  have hba:Below wr.heap.size wr wa:=by rw [hwa]; exact (Below.refl _ wr).alloc (Nat.le_refl _) _
  have ca:=(HK.out.below (Nat.le_refl _) hba).cell
  have na:=(HN.out.below (Nat.le_refl _) hba).cell
  have HBA:=zK hba
  clear hba hwa
  have hE:aes_Encrypt.f key (nonce++numB i)=some (ctrBlk key nonce i):=by
   unfold aes_Encrypt.f
   rw [if_pos ⟨hk,by rw [ByteArray.size_append,numB_size,hnn]⟩]
   rfl
  have hq:(numB i).size=4:=numB_size i
  gi_wp2
  refine ⟨trivial,?_⟩
  gi_at_call 93
  refine (callsIn_wide.2 (aes_Encrypt.calls key (nonce++numB i) _ wa hE)).mono ?_
  rintro e w2 ⟨rfl,hb2⟩
  have HB2:=zK (HBA.out.trans (hb2.mono HBA.out.size))
  have j2:J pre w2:=HJ.out _ _ _ HJ1.out ⟨HB2.out.os,HB2.out.tape,HB2.out.output,HB2.out.size,fun k hk _=>HB2.out.block k hk⟩
  obtain ⟨fn,tmps,assign,body,hy,hR⟩:=HY.out pre (ctrBlk key nonce i) w2 (by rw [HI.out]) j2
  have hx:ctrPre key nonce (i+1)=pre++[ctrBlk key nonce i]:=by rw [ctrPre_succ,HI.out,← HP.out]
  have HX:=zK hx
  clear hb2 hx ca na hq hE j2
  gi_wp2
  refine hR.mono ?_
  rintro e w3 (⟨rfl,hJ3,hk3⟩ | ⟨rfl,hx3⟩)
  ·gi_wp2
   go_roundw
   case rel =>
    refine ⟨pre++[ctrBlk key nonce i],?_,⟨?_⟩,⟨hJ3⟩,⟨(HK.out.below (Nat.le_refl _) HB2.out).kept h1 hk3⟩,⟨(HN.out.below (Nat.le_refl _) HB2.out).kept h2 hk3⟩⟩
    ·rw [List.length_append,← HI.out]
     simp
    ·rw [List.length_append,← HI.out]
     exact HX.out.symm
   case measure=>simp [intOf]; omega
  ·gi_wp2
   refine bodyPost_ret (results_none rfl _ _ _) rfl ?_
   exact ⟨⟨_,rfl⟩,pre++[ctrBlk key nonce i],⟨by simp,by rw [List.length_append,← HI.out]; exact HX.out.symm⟩,hx3⟩
set_option maxRecDepth 100000 in
theorem ctr_blocks (key nonce:ByteArray) (w:World):Calls Tryd.prog 86 #[.string key,.string nonce] w fun e w' =>
 e=.returned (.func (.func 92) #[] #[.pointer (some ⟨w.heap.size,0,none⟩),.pointer (some ⟨w.heap.size+1,0,none⟩)])∧w'=(w.alloc (.cells #[.string key] 9)).alloc (.cells #[.string nonce] 9):=by
 go_enter Tryd.func86,Tryd.ntmps86
 go_wp2
 go_ret
 exact ⟨rfl,rfl⟩
def catL (pre:List ByteArray):List UInt8:=pre.flatMap fun x=>x.data.toList
theorem catL_snoc (pre:List ByteArray) (x:ByteArray):catL (pre++[x])=catL pre++x.data.toList:=by simp [catL]
theorem ctrBlk_size (key nonce:ByteArray) (i:Nat) (hn:nonce.size=12):(ctrBlk key nonce i).size=16:=by
 unfold ctrBlk encB
 have h:∀ l:List Int,(strOfNums l).size=l.length:=fun l=>by simp [strOfNums,ByteArray.size]
 rw [h,encS_len,bytesOf_length,ByteArray.size_append,numB_size,hn]
theorem catL_len (key nonce:ByteArray) (hn:nonce.size=12):∀ n,(catL (ctrPre key nonce n)).length=16 * n
 | 0=>rfl
 | n+1=>by
  rw [ctrPre_succ,catL_snoc,List.length_append,catL_len key nonce hn n]
  have:=ctrBlk_size key nonce n hn
  rw [data_length,this]
  omega
def streamB (key nonce:ByteArray) (n:Nat):ByteArray:=(⟨(catL (ctrPre key nonce ((n+15) / 16))).toArray⟩:ByteArray).extract 0 n
def ctr_Stream.f (a0 a1:ByteArray) (a2:Int):Option ByteArray :=
  if a0.size=16∧a1.size=12∧0<a2∧a2≤1048576 then some (streamB a0 a1 a2.toNat) else some ⟨#[]⟩
def StrI (w:World) (key nonce:ByteArray) (n:Nat) (pre:List ByteArray) (W:World):Prop :=
  pre=ctrPre key nonce pre.length∧Lib.IsBuilderF 85 5 (w.heap.size+1) (w.heap.size+1) (Lib.byteCells (catL pre)) W∧W.cell? ⟨w.heap.size,0,none⟩=some (.int .i64 n)∧Below w.heap.size w W
theorem heap_at' {W:World} {o:Obj} {n:Nat} (h:W.heap.size=n):(W.alloc o).heap[n]? = some o:=by subst h; exact heap_alloc_new W o
theorem heap_before' {W:World} {o x:Obj} {n:Nat} (h:W.heap[n]? = some x):(W.alloc o).heap[n]? = some x:=(Below.heap_alloc W o n (Array.getElem?_eq_some_iff.1 h).1).trans h
theorem builder_kept {T e:TypeId} {B b:Nat} {bs:List Value} {A C:World} {row:Option Nat} (h:Lib.IsBuilderF T e B b bs A) (hg:A.grownBy C row) (hr:∀ r,row=some r→∃ o:Obj,A.heap[r]? = some o∧o.isCells=false):Lib.IsBuilderF T e B b bs C:=by
 have kp:∀ (k:Nat) (c:Array Value) (t:TypeId) (fz:Nat×Nat),A.heap[k]? = some (.cells c t fz)→C.heap[k]? = some (.cells c t fz):=fun k c t fz hc=>by
  refine (hg.block k (Array.getElem?_eq_some_iff.1 hc).1 (fun e=>?_)).trans hc
  obtain ⟨o,ho,hf⟩:=hr k e.symm
  rw [hc] at ho
  cases ho
  cases hf
 have one:∀ p,Lib.BuilderAtF T e B b p bs A→Lib.BuilderAtF T e B b p bs C:=fun p h=>by
  obtain ⟨hB,v,hb,⟨hl,ho⟩,hne⟩:=h
  refine ⟨hB,v,kp _ _ _ _ hb,⟨hl,?_⟩,hne⟩
  rcases ho with h1 | ⟨g,cap,cur,fz,h1,h2,h3,h4⟩
  ·exact .inl h1
  ·exact .inr ⟨g,cap,cur,fz,h1,h2,kp _ _ _ _ h3,h4⟩
 rcases h with h|h
 ·exact .inl (one _ h)
 ·exact .inr (one _ h)
theorem strI_own (w:World) (key nonce:ByteArray) (n D:Nat) (hD:w.heap.size≤D):OwnFrom D (StrI w key nonce n):=by
 rintro s A C row ⟨h1,h2,h3,h4⟩ hg hr
 exact ⟨h1,builder_kept h2 hg (fun r e=>(hr r e).2),cell_kept h3 hg (fun r e=>(hr r e).2),h4.grown hg h4.size (fun k e=>Nat.le_trans hD (hr k e).1)⟩
set_option maxHeartbeats 4000000 in
set_option maxRecDepth 100000 in
theorem stream_walk (key nonce:ByteArray) (n:Nat) (hk:key.size=16) (hnn:nonce.size=12) (h0:0<n) (h1:n≤1048576) (w:World) :
 Calls Tryd.prog 82 #[.string key,.string nonce,.int .i64 n] w fun e w'=>e=.returned (.string (streamB key nonce n))∧Below w.heap.size w w':=by
 have t0:((key.size:Int) != 16)=false:=by simp [hk]
 have t1:((nonce.size:Int) != 12)=false:=by simp [hnn]
 have t2:decide ((n:Int)≤0)=false:=decide_eq_false (by omega)
 have t3:decide ((n:Int) > 1048576)=false:=decide_eq_false (by omega)
 have t4:decide (1048576<(n:Int))=false:=decide_eq_false (by omega)
 refine (callsIn_wide (n:=10)).1 ?_
 refine callsIn_of_wp_marks Tryd.func82 rfl trivial ?_ rfl
 simp only [Tryd.ntmps82,List.size_toArray,List.length_cons,List.length_nil,Nat.reduceAdd,Nat.reduceSub,Array.replicate_succ,Array.replicate_zero,List.push_toArray,List.append_toArray,List.nil_append,List.cons_append]
 gi_wp2
 refine ⟨trivial,?_⟩
 gi_at_call 86
 refine (callsIn_wide.2 (ctr_blocks key nonce _)).mono ?_
 rintro e w1 ⟨rfl,rfl⟩
 gi_wp2
 obtain ⟨W0,hW0⟩:∃ W0,W0=(((w.alloc (.cells #[.int .i64 n] 3)).alloc (.cells #[.pointer none,.slice none 0 0] 85)).alloc (.cells #[.string key] 9)).alloc (.cells #[.string nonce] 9):=⟨_,rfl⟩
 rw [← hW0]
 have hsz:W0.heap.size=w.heap.size+4:=by rw [hW0]; simp
 have bn0:W0.heap[w.heap.size]? = some (.cells #[.int .i64 n] 3 (0,0)):=by
  rw [hW0]; exact heap_before' (heap_before' (heap_before' (heap_alloc_new _ _)))
 have bb0:W0.heap[w.heap.size+1]? = some (.cells #[.pointer none,.slice none 0 0] 85 (0,0)):=by
  rw [hW0]; exact heap_before' (heap_before' (heap_at' (by simp)))
 have bk0:BoxS W0 (w.heap.size+1+1) key:=by
  rw [hW0]; exact heap_before' (heap_at' (by simp))
 have bo0:BoxS W0 (w.heap.size+1+1+1) nonce:=by
  rw [hW0]; exact heap_at' (by simp)
 have hB0:Below w.heap.size w W0:=by
  rw [hW0]
  exact ((((Below.refl _ w).alloc (Nat.le_refl _) _).alloc (by simp) _).alloc (by simp; omega) _).alloc (by simp; omega) _
 clear hW0
 refine wpIn_range_endless rfl (by omega) (gf:=92) (lb:=#[.pointer (some ⟨w.heap.size+1+1,0,none⟩),.pointer (some ⟨w.heap.size+1+1+1,0,none⟩)]) rfl trivial (enters_of Tryd.func92 (by kernel_rfl) rfl)
  (N:=65536) (id:=0) (Kp:=KpB (w.heap.size+1)) (fun _ _ _=>KpB.trans) (kpb_loop _) (ctr_endless 9 (by omega) 65536 (by omega) key nonce hk hnn (w.heap.size+1) _ _ (by omega) (by omega) W0 bk0 bo0)
  (fun pre W=>StrI w key nonce n pre W∧16 * pre.length<n) (fun pre W=>StrI w key nonce n pre W∧n≤16 * pre.length∧16 * pre.length<n+16)
  (OwnFrom.and (strI_own w key nonce n _ (by omega)) (ownFrom_pure _ _)) (OwnFrom.and (strI_own w key nonce n _ (by omega)) (ownFrom_pure _ _))
  (fun pre W h=>by have:=h.2; omega) ⟨⟨rfl,.inl ⟨Nat.le_refl _,_,bb0,⟨rfl,.inl ⟨rfl,rfl⟩⟩,by intro h; cases h⟩,(cell_of_row W0 _ 0 _ _ _ bn0).trans rfl,hB0⟩,by simpa using h0⟩
  (fun x=>{ tmps:=#[.string key,.string nonce,.int .i64 n,undef,undef,.pointer (some ⟨w.heap.size,0,none⟩),.string ⟨#[]⟩,.pointer (some ⟨w.heap.size+1,0,none⟩),.string x,.string key,.int .i64 16,.bool false,.bool false,.string nonce,.int .i64 12,.bool false,.bool false,.bool false,.int .i64 n,.bool false,.bool false,.bool false,.int .i64 n,.bool false,.bool false,.string key,.string nonce,.func (.func 92) #[] #[.pointer (some ⟨w.heap.size+1+1,0,none⟩),.pointer (some ⟨w.heap.size+1+1+1,0,none⟩)],.string x,undef,undef,undef,undef,undef,undef,undef,undef],defers:=[] }) ?assign ?body ?stop
 case assign =>
  intro l x W K hK
  gi_wp2
  exact hK
 case body =>
  rintro l pre x W hx ⟨⟨hp,hb,hc,hB⟩,hlt⟩
  have hx16:x.size=16:=by rw [hx]; exact ctrBlk_size key nonce pre.length hnn
  have hlen:(catL pre).length=16 * pre.length:=by
   have:=catL_len key nonce hnn pre.length
   rwa [← hp] at this
  have hbl:(Lib.byteCells (catL pre)).length=16 * pre.length:=by simp [Lib.byteCells,hlen]
  have hap:Lib.byteCells (catL (pre++[x]))=Lib.byteCells (catL pre)++Lib.strCells x:=by
   rw [catL_snoc]; simp [Lib.byteCells,Lib.strCells]
  have hS:w.heap.size+1<W.heap.size:=by rcases hb with h|h<;>exact h.lt
  have HP:=zK hp
  have HX:=zK hx
  clear hp hx
  gi_wp2
  refine ⟨trivial,?_⟩
  gi_at_call 87
  refine (CallsIn.inRound l (callsIn_wide.2 (b_write2 (w.heap.size+1) (w.heap.size+1) _ x W hb (by rw [hbl]; omega) (by omega)))).mono ?_
  rintro e w1 ⟨rfl,hb1,hB1,hk1,hs1⟩
  rw [← hap] at hb1
  have hc1:w1.cell? ⟨w.heap.size,0,none⟩=some (.int .i64 n):=(World.cell?_of_block (hB1.block w.heap.size (by omega))).trans hc
  have hl1:(Lib.byteCells (catL (pre++[x]))).length=16 * (pre.length+1):=by
   rw [hap,List.length_append,hbl,Lib.strCells_length]; omega
  have HB1:=zK hb1
  have HK1:=zK hk1
  have HBB:=zK (hB.trans (hB1.mono (by omega)))
  clear hB1 hk1 hb1 hap hbl hlen hb hB hc
  gi_wp2
  have hd:1≤10 - 1 - 1:=by omega
  have hmx:Tryd.prog.follows .mixedOrders=true:=by kernel_rfl
  have hfl:Fence.wide.fn 88:=trivial
  have hbd:Lib.IsBuilderF 85 5 (w.heap.size+1) (w.heap.size+1) (Lib.byteCells (catL (pre++[x]))) w1.drew:=.inr HB1.out.drew
  have hc2:w1.drew.cell? ⟨w.heap.size,0,none⟩=some (.int .i64 n):=hc1
  have hfl2:(Fence.wide.inRound l).fn 88:=trivial
  by_cases hgo:n≤16 * (pre.length+1)
  case pos =>
   have tg:decide (((16 * (pre.length+1):Nat):Int)≥(n:Int))=true:=decide_eq_true (by omega)
   gi_region_with_o (gi_at_call 88; refine (CallsIn.inRound l (callsIn_wide.2 (b_len (w.heap.size+1) (w.heap.size+1) (Lib.byteCells (catL (pre++[x]))) w1.drew hbd))).mono ?_; rintro e w' ⟨he,rfl⟩; rw [hl1] at he; subst he)
   all_goals gi_wp2
   all_goals exact ⟨rfl,HK1.out.1.trans (KeepsOthers.drew w1),⟨by rw [List.length_append]; show _=ctrPre key nonce (pre.length+1); rw [ctrPre_succ,← HP.out,← HX.out],hbd,hc2,HBB.out.drew⟩,by rw [List.length_append]; exact hgo,by rw [List.length_append]; show 16 * (pre.length+1)<n+16; omega⟩
  have tg:decide (((16 * (pre.length+1):Nat):Int)≥(n:Int))=false:=decide_eq_false (by omega)
  gi_region_with_o (gi_at_call 88; refine (CallsIn.inRound l (callsIn_wide.2 (b_len (w.heap.size+1) (w.heap.size+1) (Lib.byteCells (catL (pre++[x]))) w1.drew hbd))).mono ?_; rintro e w' ⟨he,rfl⟩; rw [hl1] at he; subst he)
  all_goals gi_wp2
  all_goals exact ⟨HK1.out.1.trans (KeepsOthers.drew w1),fun k c T fz h1 h2 h3=>HK1.out.2 k c T fz h1 h2 h3,⟨by rw [List.length_append]; show _=ctrPre key nonce (pre.length+1); rw [ctrPre_succ,← HP.out,← HX.out],hbd,hc2,HBB.out.drew⟩,by rw [List.length_append]; show 16 * (pre.length+1)<n; omega⟩
 case stop =>
  rintro D pre W hD ⟨hpos,hsp⟩ ⟨⟨hp,hb,hc,hB⟩,h2,h3⟩ hK
  have hlen:(catL pre).length=16 * pre.length:=by
   have:=catL_len key nonce hnn pre.length
   rwa [← hp] at this
  have hne:catL pre≠[]:=fun e=>by rw [e] at hlen; simp at hlen; omega
  have hzs:(⟨(catL pre).toArray⟩:ByteArray).size=16 * pre.length:=by rw [← hlen]; simp [ByteArray.size]
  have hq:pre.length=(n+15) / 16:=by omega
  have hr:(⟨(catL pre).toArray⟩:ByteArray).extract 0 n=streamB key nonce n:=by
   unfold streamB; rw [← hq,← hp]
  have HR:=zK hr
  have HBB:=zK hB
  have HKD:=zK hK
  have hbd:Lib.IsBuilderF 85 5 (w.heap.size+1) (w.heap.size+1) (Lib.byteCells (catL pre)) W.drew:=by
   rcases hb with h|h
   ·exact .inl h.drew
   ·exact .inr h.drew
  have hc2:W.drew.cell? ⟨w.heap.size,0,none⟩=some (.int .i64 n):=hc
  have hS:w.heap.size+1<W.heap.size:=by rcases hb with h|h<;>exact h.lt
  clear hr hB hK hp hsp hb hq
  have hmx:Tryd.prog.follows .mixedOrders=true:=by kernel_rfl
  have hfl:Fence.wide.fn 89:=trivial
  gi_wp2
  have hst:=fun W' (h:W'=W.drew)=>(callsIn_wide (n:=9)).2 (b_string2 (w.heap.size+1) (w.heap.size+1) (catL pre) W' (h▸hbd) hne)
  have ha0:(0:Int)≤(n:Int):=by omega
  have ha1:(n:Int)≤((16 * pre.length:Nat):Int):=by omega
  refine wpIn_region_any hmx ?_
  try (change wpAnyIn _ _ _ _ _ _ _ _ _ (World.drew _))
  refine wpAnyIn_ready (rs:=[0,1]) (by kernel_rfl) (by simp) ?_
  refine AllReadyIn.cons rfl (fun K hK=>?_) ?_
  ·go_simp
   refine (hst _ rfl).mono ?_
   rintro e w2 ⟨rfl,hB2,hO2⟩
   have hc3:w2.cell? ⟨w.heap.size,0,none⟩=some (.int .i64 n):=(World.cell?_of_block (hB2.block w.heap.size (by omega))).trans hc2
   refine hK _ _ ?_
   clear hK K
   refine wpAnyIn_ready (rs:=[1]) (by kernel_rfl) (by simp) ?_
   refine AllReadyIn.cons rfl (fun K hK=>?_) AllReadyIn.nil
   go_simp
   refine hK _ _ ?_
   clear hK K
   refine wpAnyIn_ready (rs:=[2]) (by kernel_rfl) (by simp) ?_
   refine AllReadyIn.cons rfl (fun K hK=>?_) AllReadyIn.nil
   go_simp
   rw [if_pos (by omega)]
   go_simp
   refine hK _ _ ?_
   clear hK K
   refine wpAnyIn_ready (rs:=[3]) (by kernel_rfl) (by simp) ?_
   refine AllReadyIn.cons rfl (fun K hK=>?_) AllReadyIn.nil
   go_simp
   refine hK _ _ ?_
   clear hK K
   refine wpAnyIn_done (by kernel_rfl) ?_ _
   gi_wp2
   have hKD:w2.heap[D]? = some (.deferred (some [])):=hO2 D _ HKD.out (fun e=>by have:=Option.some.inj e; omega) (fun c fz e=>by cases e)
   have hB3:Below w.heap.size w w2:=HBB.out.drew.trans (hB2.mono (by omega))
   refine ⟨by simp,.inl ⟨_,_,rfl,run_takeDeferred hKD,?_⟩⟩
   exact ⟨_,results_tmp rfl _ _ _,by rw [HR.out]; rfl,hB3.trans (belowK_b (w:=w) (Nat.le_refl _) w2 D _ _ (by omega) hKD rfl rfl)⟩
  refine AllReadyIn.cons rfl (fun K hK=>?_) AllReadyIn.nil
  ·go_simp
   refine hK _ _ ?_
   clear hK K
   refine wpAnyIn_ready (rs:=[0]) (by kernel_rfl) (by simp) ?_
   refine AllReadyIn.cons rfl (fun K hK=>?_) AllReadyIn.nil
   go_simp
   refine (hst _ rfl).mono ?_
   rintro e w2 ⟨rfl,hB2,hO2⟩
   refine hK _ _ ?_
   clear hK K
   refine wpAnyIn_ready (rs:=[2]) (by kernel_rfl) (by simp) ?_
   refine AllReadyIn.cons rfl (fun K hK=>?_) AllReadyIn.nil
   go_simp
   rw [if_pos (by omega)]
   go_simp
   refine hK _ _ ?_
   clear hK K
   refine wpAnyIn_ready (rs:=[3]) (by kernel_rfl) (by simp) ?_
   refine AllReadyIn.cons rfl (fun K hK=>?_) AllReadyIn.nil
   go_simp
   refine hK _ _ ?_
   clear hK K
   refine wpAnyIn_done (by kernel_rfl) ?_ _
   gi_wp2
   have hKD:w2.heap[D]? = some (.deferred (some [])):=hO2 D _ HKD.out (fun e=>by have:=Option.some.inj e; omega) (fun c fz e=>by cases e)
   have hB3:Below w.heap.size w w2:=HBB.out.drew.trans (hB2.mono (by omega))
   refine ⟨by simp,.inl ⟨_,_,rfl,run_takeDeferred hKD,?_⟩⟩
   exact ⟨_,results_tmp rfl _ _ _,by rw [HR.out]; rfl,hB3.trans (belowK_b (w:=w) (Nat.le_refl _) w2 D _ _ (by omega) hKD rfl rfl)⟩
set_option maxHeartbeats 4000000 in
set_option maxRecDepth 100000 in
theorem stream_out (a0 a1:ByteArray) (a2:Int) (hc:¬ (a0.size=16∧a1.size=12∧0<a2∧a2≤1048576)) (w:World) :
 Calls Tryd.prog 82 #[.string a0,.string a1,.int .i64 a2] w fun e w'=>e=.returned (.string ⟨#[]⟩)∧Below w.heap.size w w':=by
 by_cases h0:a0.size=16
 case neg =>
  have t0:((a0.size:Int) != 16)=true:=by rw [bne_iff_ne]; omega
  clear hc
  go_enter Tryd.func82,Tryd.ntmps82
  go_wp2
  go_ret
  exact ⟨rfl,(Below.refl _ _).alloc (Nat.le_refl _) _⟩
 have t0:((a0.size:Int) != 16)=false:=by simp [h0]
 by_cases h1:a1.size=12
 case neg =>
  have t1:((a1.size:Int) != 12)=true:=by rw [bne_iff_ne]; omega
  clear hc
  go_enter Tryd.func82,Tryd.ntmps82
  go_wp2
  go_ret
  exact ⟨rfl,(Below.refl _ _).alloc (Nat.le_refl _) _⟩
 have t1:((a1.size:Int) != 12)=false:=by simp [h1]
 by_cases h2:a2≤0
 case pos =>
  have t2:decide (a2≤0)=true:=decide_eq_true h2
  clear hc
  go_enter Tryd.func82,Tryd.ntmps82
  go_wp2
  go_ret
  exact ⟨rfl,(Below.refl _ _).alloc (Nat.le_refl _) _⟩
 have t2:decide (a2≤0)=false:=decide_eq_false h2
 have h3:a2 > 1048576:=by omega
 have t3:decide (a2 > 1048576)=true:=decide_eq_true h3
 have t4:decide (1048576<a2)=true:=decide_eq_true h3
 clear hc
 go_enter Tryd.func82,Tryd.ntmps82
 go_wp2
 go_ret
 exact ⟨rfl,(Below.refl _ _).alloc (Nat.le_refl _) _⟩
theorem ctr_Stream.calls (a0 a1:ByteArray) (a2:Int) (r:ByteArray) (w:World) (h:ctr_Stream.f a0 a1 a2=some r) :
 Calls Tryd.prog 82 #[.string a0,.string a1,.int .i64 a2] w fun e w'=>e=.returned (.string r)∧Below w.heap.size w w':=by
 unfold ctr_Stream.f at h
 by_cases hc:a0.size=16∧a1.size=12∧0<a2∧a2≤1048576
 case neg =>
  rw [if_neg hc] at h
  obtain rfl:=Option.some.inj h
  exact stream_out a0 a1 a2 hc w
 rw [if_pos hc] at h
 obtain rfl:=Option.some.inj h
 obtain ⟨n,rfl⟩:∃ n:Nat,a2=n:=⟨a2.toNat,by omega⟩
 rw [Int.toNat_natCast]
 exact stream_walk a0 a1 n hc.1 hc.2.1 (by omega) (by omega) w
end Go.Proofs.YtkgijkfcmbpgpaaDoor.Giv
end
section
namespace Go.Proofs.YtkgijkfcmbpgpaaDoor.PAll
open Go.RowKit Go.Proofs.YtkgijkfcmbpgpaaDoorW.PrintWords Go.Proofs.YtkgijkfcmbpgpaaDoorW.PrintLast Go.Proofs.YtkgijkfcmbpgpaaDoorW.PrintMore
open Go.Proofs.YtkgijkfcmbpgpaaDoor.Giv
attribute [local go_sem] max2_int min2_int max_two min_two max_three min_three max_four min_four
set_option linter.unusedVariables false
set_option linter.unusedSimpArgs false
def legatelaw02_works.T1:Bool×List (List Nat×List Nat):=(true,[([],[]),([0],[0]),([1,0],[1]),([2,2],[2]),([3,2],[2,3]),([4,2],[2,4]),([2,5],[2,5]),([6,3],[6]),([7,7],[7]),([8,7],[7,8]),([9,7],[7,9]),([7,10],[7,10]),([11,8],[11]),([12,12],[12]),([12],[12]),([14,12],[12,14]),([13,15,13,12],[12,13,15]),([16,12],[12,16]),([17,12],[12,17]),([12,18],[12,18]),([19,16,0,1,2,3,4,5,6,7,8,9,10,11,12,13,14,15,16,17,18,19],[19])])
def legatelaw02_works.B1:List Nat:=[0,1,3,7,15,31,63,127,255,511,1023,2047,4095,8191,8191,24575,65535,131071,262143,524287,1048575]
theorem legatelaw02_works.tab1:rtab .any (opsOf Tryd.f19 1)=legatelaw02_works.T1:=by kernel_rfl
theorem legatelaw02_works.bits1:waitsOk legatelaw02_works.T1.2 legatelaw02_works.B1=true:=by kernel_rfl
end Go.Proofs.YtkgijkfcmbpgpaaDoor.PAll
end
section
namespace Go.Proofs.YtkgijkfcmbpgpaaDoor.PAll
open Go.RowKit Go.Proofs.YtkgijkfcmbpgpaaDoorW.PrintWords Go.Proofs.YtkgijkfcmbpgpaaDoorW.PrintLast Go.Proofs.YtkgijkfcmbpgpaaDoorW.PrintMore
open Go.Proofs.YtkgijkfcmbpgpaaDoor.Giv
attribute [local go_sem] max2_int min2_int max_two min_two max_three min_three max_four min_four
set_option linter.unusedVariables false
set_option linter.unusedSimpArgs false
def derive_Key.f (a0:ByteArray) (a1:Int) (a2:ByteArray):Option (ByteArray):=(derive_text.f a2 (⟨#[]⟩:ByteArray) (([a1]:List Int))).bind fun t268=>((hmac_Mac.f a0 t268).bind fun t269=>(some t269))
set_option maxHeartbeats 8000000 in
set_option maxRecDepth 100000 in
theorem derive_Key.calls (a0:ByteArray) (a1:Int) (a2:ByteArray) (r:ByteArray) (w:World) {gw:GW w} (h:derive_Key.f a0 a1 a2=some r) :
 Calls Tryd.prog 41 #[.string a0,.int .i64 a1,.string a2] w fun e w'=>e=.returned (.string r)∧Below w.heap.size w w':=by
 have HG:=zK gw
 clear gw
 have HB:=zK (Below.refl w.heap.size w)
 have H:((derive_text.f a2 (⟨#[]⟩:ByteArray) (([a1]:List Int))).bind fun t268=>((hmac_Mac.f a0 t268).bind fun t269=>(some t269)))=some r:=h
 clear h
 obtain ⟨y265,hy265⟩:∃ y_:List Int,y_=(([a1]:List Int)):=⟨_,rfl⟩
 replace H:((derive_text.f a2 (⟨#[]⟩:ByteArray) y265).bind fun t268=>((hmac_Mac.f a0 t268).bind fun t269=>(some t269)))=some r:=by first|(rw [hy265]; with_reducible exact H)|(have H2_:=(Option.bind_some _ _).symm.trans H; rw [hy265]; with_reducible exact H2_)|(have H2_:=(Option.bind_some _ _).symm.trans H; with_reducible exact H2_)|with_reducible exact H|(rw [hy265]; exact H)|exact H
 have Ny265:=zK hy265
 clear hy265
 replace H:=Option.bind_eq_some_iff.mp H
 obtain ⟨t268,A40,H⟩:=H
 replace H:((hmac_Mac.f a0 t268).bind fun t269=>(some t269))=some r:=H
 have A4:=zK A40
 clear A40
 replace H:=Option.bind_eq_some_iff.mp H
 obtain ⟨t269,A50,H⟩:=H
 replace H:(some t269)=some r:=H
 have A5:=zK A50
 clear A50
 obtain rfl:=Option.some.inj H
 go_enter Tryd.func41,Tryd.ntmps41
 go_wp2_with (first|((with_reducible refine gate_dst (N:=10) rfl ?_); refine Kd.R_lit (Kd.int .i64) _ 3 ?hg (N:=10) ?hd (xs:=([a1]:List Int)) (inner:=[.int .i64 a1]) (ok:=fun _=>True) (okp:=fun _=>True) ?hr ?hp (fun _ hk=>hk) trivial (Below.refl _ _) (Nat.le_refl _) (by simp) ?_; (case hd=>rfl); (case hg=>rfl); (case hr=>first|(go_simp; done)|(go_simp; rfl)); (case hp=>exact (Reps.one (show Kd.M (Kd.int .i64) _ _ _ a1 [.int .i64 a1] from rfl) (Reps.none _ _))); intro v266 w6 ho7 hb hg_ hnew_; clear hg_ hnew_; (first|rw [← Ny265.out] at ho7|(simp only [Int.reduceToNat] at ho7; rw [← Ny265.out] at ho7)); have n0_:=zK (Kd.R_lower ho7 (below_size (by repeat (first|(with_reducible first|exact HB.out|apply zA|apply zN|apply zD)|exact HB.out)))); have n1_:=zK (below_step (by repeat (first|(with_reducible first|exact HB.out|apply zA|apply zN|apply zD)|exact HB.out)) hb); clear HB; have HO267:=n0_; have HB:=n1_; clear n0_ n1_; clear hb ho7; obtain ⟨Ao8,co8,eo8⟩:=Kd.R_slice HO267.out; subst eo8)|((with_reducible refine gate_callee (f:=71) rfl ?_); refine goesL_ (some 11) rfl rfl Tryd.func71 (by kernel_rfl) rfl #[.string a2,.string (⟨#[]⟩:ByteArray),.slice Ao8 y265.length co8] rfl (by (try simp only [zm]); first|done|rfl|(simp only [zl]; rfl)) ?_; (with_reducible refine (derive_text.calls a2 (⟨#[]⟩:ByteArray) _ _ y265 t268 _ ?side1 ?side2 A4.out).mono ?_); (case side1=>repeat (first|exact (Kd.R_reads' HO267.out).2.2|(with_reducible refine Kd.C_alloc ?_ _)|(with_reducible refine Kd.C_drewN ?_ _)|(with_reducible refine Kd.C_drew ?_))); (case side2=>exact (Kd.R_reads' HO267.out).2.1); rintro e w9 ⟨rfl,hb⟩; refine ⟨_,rfl,?_⟩; have n0_:=zK (Kd.R_below (by (with_reducible repeat (first|apply Kd.R_alloc|apply Kd.R_drewN|apply Kd.R_drew)); exact HO267.out) hb); have n1_:=zK (below_step (by repeat (first|(with_reducible first|exact HB.out|apply zA|apply zN|apply zD)|exact HB.out)) hb); clear HO267; clear HB; have HO267:=n0_; have HB:=n1_; clear n0_ n1_; (try clear hb); (try clear hb2); (try clear hk); (try clear hi))|((with_reducible refine gate_callee (f:=31) rfl ?_); refine goesL_ (some 12) rfl rfl Tryd.func31 (by kernel_rfl) rfl #[.string a0,.string t268] rfl (by (try simp only [zm]); first|done|rfl|(simp only [zl]; rfl)) ?_; (with_reducible refine (hmac_Mac.calls (gw:=?sideG) a0 t268 t269 _ A5.out).mono ?_); (case sideG=>exact GW.below HG.out (by repeat (first|(with_reducible first|exact HB.out|apply zA|apply zN|apply zD)|exact HB.out))); rintro e w10 ⟨rfl,hb⟩; refine ⟨_,rfl,?_⟩; have n0_:=zK (Kd.R_below (by (with_reducible repeat (first|apply Kd.R_alloc|apply Kd.R_drewN|apply Kd.R_drew)); exact HO267.out) hb); have n1_:=zK (below_step (by repeat (first|(with_reducible first|exact HB.out|apply zA|apply zN|apply zD)|exact HB.out)) hb); clear HO267; clear HB; have HO267:=n0_; have HB:=n1_; clear n0_ n1_; (try clear hb); (try clear hb2); (try clear hk); (try clear hi)))
 go_ret
 exact ⟨by first|rfl|(simp [errW_none,errW_some]<;>rfl)|(simp [*,errW_none,errW_some]<;>rfl),by repeat (first|(with_reducible first|exact HB.out|apply zA|apply zN|apply zD)|exact HB.out)⟩
def derive_Sum.f (a0:ByteArray) (a1:Int):Option (ByteArray):=(derive_Key.f a0 a1 (⟨#[115,117,109]⟩:ByteArray)).bind fun t270=>(some t270)
set_option maxHeartbeats 8000000 in
set_option maxRecDepth 100000 in
theorem derive_Sum.calls (a0:ByteArray) (a1:Int) (r:ByteArray) (w:World) {gw:GW w} (h:derive_Sum.f a0 a1=some r) :
 Calls Tryd.prog 32 #[.string a0,.int .i64 a1] w fun e w'=>e=.returned (.string r)∧Below w.heap.size w w':=by
 have HG:=zK gw
 clear gw
 have HB:=zK (Below.refl w.heap.size w)
 have H:((derive_Key.f a0 a1 (⟨#[115,117,109]⟩:ByteArray)).bind fun t270=>(some t270))=some r:=h
 clear h
 replace H:=Option.bind_eq_some_iff.mp H
 obtain ⟨t270,A30,H⟩:=H
 replace H:(some t270)=some r:=H
 have A3:=zK A30
 clear A30
 obtain rfl:=Option.some.inj H
 go_enter Tryd.func32,Tryd.ntmps32
 go_wp2_with (first|((with_reducible refine gate_callee (f:=41) rfl ?_); refine goesL_ (some 7) rfl rfl Tryd.func41 (by kernel_rfl) rfl #[.string a0,.int .i64 a1,.string (⟨#[115,117,109]⟩:ByteArray)] rfl (by (try simp only [zm]); first|done|rfl|(simp only [zl]; rfl)) ?_; (with_reducible refine (derive_Key.calls (gw:=?sideG) a0 a1 (⟨#[115,117,109]⟩:ByteArray) t270 _ A3.out).mono ?_); (case sideG=>exact GW.below HG.out (by repeat (first|(with_reducible first|exact HB.out|apply zA|apply zN|apply zD)|exact HB.out))); rintro e w4 ⟨rfl,hb⟩; refine ⟨_,rfl,?_⟩; have n0_:=zK (below_step (by repeat (first|(with_reducible first|exact HB.out|apply zA|apply zN|apply zD)|exact HB.out)) hb); clear HB; have HB:=n0_; clear n0_; (try clear hb); (try clear hb2); (try clear hk); (try clear hi)))
 go_ret
 exact ⟨by first|rfl|(simp [errW_none,errW_some]<;>rfl)|(simp [*,errW_none,errW_some]<;>rfl),by repeat (first|(with_reducible first|exact HB.out|apply zA|apply zN|apply zD)|exact HB.out)⟩
def derive_Cipher.f (a0:ByteArray) (a1:Int):Option (ByteArray):=(derive_Key.f a0 a1 (⟨#[99,105,112,104,101,114]⟩:ByteArray)).bind fun t271=>(if 0≤16 then (if 16≤(t271.size:Int) then (some (t271.extract 0 16)) else (none)) else (none))
set_option maxHeartbeats 8000000 in
set_option maxRecDepth 100000 in
theorem derive_Cipher.calls (a0:ByteArray) (a1:Int) (r:ByteArray) (w:World) {gw:GW w} (h:derive_Cipher.f a0 a1=some r) :
 Calls Tryd.prog 43 #[.string a0,.int .i64 a1] w fun e w'=>e=.returned (.string r)∧Below w.heap.size w w':=by
 have HG:=zK gw
 clear gw
 have HB:=zK (Below.refl w.heap.size w)
 have H:((derive_Key.f a0 a1 (⟨#[99,105,112,104,101,114]⟩:ByteArray)).bind fun t271=>(if 0≤16 then (if 16≤(t271.size:Int) then (some (t271.extract 0 16)) else (none)) else (none)))=some r:=h
 clear h
 replace H:=Option.bind_eq_some_iff.mp H
 obtain ⟨t271,A30,H⟩:=H
 replace H:(if 0≤16 then (if 16≤(t271.size:Int) then (some (t271.extract 0 16)) else (none)) else (none))=some r:=H
 have A3:=zK A30
 clear A30
 by_cases c4:0≤16
 case neg =>
  rw [if_neg c4] at H
  exact absurd H (by simp)
 rw [if_pos c4] at H
 have c4b0:=eq_true c4
 have c4b1:decide (0≤16)=true:=decide_eq_true c4
 clear c4
 by_cases c5:16≤(t271.size:Int)
 case neg =>
  rw [if_neg c5] at H
  exact absurd H (by simp)
 rw [if_pos c5] at H
 have c5b0:=eq_true c5
 have c5b1:decide (16≤(t271.size:Int))=true:=decide_eq_true c5
 clear c5
 obtain rfl:=Option.some.inj H
 go_enter Tryd.func43,Tryd.ntmps43
 go_wp2_with (first|((with_reducible refine gate_callee (f:=41) rfl ?_); refine goesL_ (some 7) rfl rfl Tryd.func41 (by kernel_rfl) rfl #[.string a0,.int .i64 a1,.string (⟨#[99,105,112,104,101,114]⟩:ByteArray)] rfl (by (try simp only [zm]); first|done|rfl|(simp only [zl]; rfl)) ?_; (with_reducible refine (derive_Key.calls (gw:=?sideG) a0 a1 (⟨#[99,105,112,104,101,114]⟩:ByteArray) t271 _ A3.out).mono ?_); (case sideG=>exact GW.below HG.out (by repeat (first|(with_reducible first|exact HB.out|apply zA|apply zN|apply zD)|exact HB.out))); rintro e w6 ⟨rfl,hb⟩; refine ⟨_,rfl,?_⟩; have n0_:=zK (below_step (by repeat (first|(with_reducible first|exact HB.out|apply zA|apply zN|apply zD)|exact HB.out)) hb); clear HB; have HB:=n0_; clear n0_; (try clear hb); (try clear hb2); (try clear hk); (try clear hi)))
 go_ret
 exact ⟨by first|rfl|(simp [errW_none,errW_some]<;>rfl)|(simp [*,errW_none,errW_some]<;>rfl),by repeat (first|(with_reducible first|exact HB.out|apply zA|apply zN|apply zD)|exact HB.out)⟩
def ctr_Cipher.l0:Nat→ByteArray→ByteArray→List Int→Int→Int→Option (ByteArray)
  | 0,_,_,_,_,_=>none
  | k+1,x2,x7,x8,x24,x25=>if x25<x24 then (if 0≤x25 then (if x25<(x2.size:Int) then (if x25<(x7.size:Int) then (if x25<(x8.length:Int) then (ctr_Cipher.l0 k x2 x7 (x8.set (x25:Int).toNat (Go.bits .xor .u8 (bt x2 x25) (bt x7 x25))) x24 (wrap64 (x25+1))) else (none)) else (none)) else (none)) else (none)) else (some (strOfNums x8))
def ctr_Cipher.f (k:Nat) (a0:ByteArray) (a1:ByteArray) (a2:ByteArray):Option (ByteArray):=(ctr_Stream.f a0 a1 (a2.size:Int)).bind fun t272=>(if (t272.size:Int)=(a2.size:Int) then (if 0≤(a2.size:Int) then (if ((a2.size:Int):Int).toNat≤281474976710656 then (ctr_Cipher.l0 k a2 t272 (List.replicate ((a2.size:Int):Int).toNat 0) (a2.size:Int) 0) else (none)) else (none)) else (some (⟨#[]⟩:ByteArray)))
def ctr_Cipher.T8:Bool×List (List Nat×List Nat):=(true,[([],[]),([],[]),([],[]),([],[]),([2,3],[2,3]),([],[]),([],[]),([5,6],[5,6]),([4,7],[4,7]),([0,1,0,1,2,3,4,5,6,7,8],[0,1]),([9,8,0,1,2,3,4,5,6,7,8],[8,9])])
def ctr_Cipher.B8:List Nat:=[0,0,0,0,12,0,0,96,252,511,1023]
theorem ctr_Cipher.tab8:rtab .any (opsOf Tryd.f65 8)=ctr_Cipher.T8:=by kernel_rfl
theorem ctr_Cipher.bits8:waitsOk ctr_Cipher.T8.2 ctr_Cipher.B8=true:=by kernel_rfl
set_option maxHeartbeats 8000000 in
set_option maxRecDepth 100000 in
theorem ctr_Cipher.calls (k:Nat) (a0:ByteArray) (a1:ByteArray) (a2:ByteArray) (r:ByteArray) (w:World) (h:ctr_Cipher.f k a0 a1 a2=some r) :
 Calls Tryd.prog 65 #[.string a0,.string a1,.string a2] w fun e w'=>e=.returned (.string r)∧Below w.heap.size w w':=by
 have HB:=zK (Below.refl w.heap.size w)
 have H:((ctr_Stream.f a0 a1 (a2.size:Int)).bind fun t272=>(if (t272.size:Int)=(a2.size:Int) then (if 0≤(a2.size:Int) then (if ((a2.size:Int):Int).toNat≤281474976710656 then (ctr_Cipher.l0 k a2 t272 (List.replicate ((a2.size:Int):Int).toNat 0) (a2.size:Int) 0) else (none)) else (none)) else (some (⟨#[]⟩:ByteArray))))=some r:=h
 clear h
 replace H:=Option.bind_eq_some_iff.mp H
 obtain ⟨t272,A40,H⟩:=H
 replace H:(if (t272.size:Int)=(a2.size:Int) then (if 0≤(a2.size:Int) then (if ((a2.size:Int):Int).toNat≤281474976710656 then (ctr_Cipher.l0 k a2 t272 (List.replicate ((a2.size:Int):Int).toNat 0) (a2.size:Int) 0) else (none)) else (none)) else (some (⟨#[]⟩:ByteArray)))=some r:=H
 have A4:=zK A40
 clear A40
 by_cases c5:(t272.size:Int)=(a2.size:Int)
 case neg =>
  rw [if_neg c5] at H
  have c5b0:((t272.size:Int) == (a2.size:Int))=false:=beq_eq_false_iff_ne.mpr c5
  have c5b1:((t272.size:Int) != (a2.size:Int))=true:=bne_iff_ne.mpr c5
  have c5b2:(t272.size == a2.size)=false:=by first|simpa using c5|(simp at c5 ⊢; omega)
  obtain rfl:=Option.some.inj H
  go_enter Tryd.func65,Tryd.ntmps65
  go_wp2_with (first|((with_reducible refine gate_callee (f:=82) rfl ?_); refine goesL_ (some 14) rfl rfl Tryd.func82 (by kernel_rfl) rfl #[.string a0,.string a1,.int .i64 (a2.size:Int)] rfl (by (try simp only [zm]); first|done|rfl|(simp only [zl]; rfl)) ?_; (with_reducible refine (ctr_Stream.calls a0 a1 (a2.size:Int) t272 _ A4.out).mono ?_); rintro e w22 ⟨rfl,hb⟩; refine ⟨_,rfl,?_⟩; have n0_:=zK (below_step (by repeat (first|(with_reducible first|exact HB.out|apply zA|apply zN|apply zD)|exact HB.out)) hb); clear HB; have HB:=n0_; clear n0_; (try clear hb); (try clear hb2); (try clear hk); (try clear hi)))
  go_ret
  exact ⟨by first|rfl|(simp [errW_none,errW_some]<;>rfl)|(simp [*,errW_none,errW_some]<;>rfl),by repeat (first|(with_reducible first|exact HB.out|apply zA|apply zN|apply zD)|exact HB.out)⟩
 rw [if_pos c5] at H
 have c5b0:((t272.size:Int) == (a2.size:Int))=true:=beq_iff_eq.mpr c5
 have c5b1:((t272.size:Int) != (a2.size:Int))=false:=bne_eq_false_iff_eq.mpr c5
 have c5b2:(t272.size == a2.size)=true:=by first|simpa using c5|(simp at c5 ⊢; omega)
 clear c5
 by_cases c6:0≤(a2.size:Int)
 case neg =>
  rw [if_neg c6] at H
  exact absurd H (by simp)
 rw [if_pos c6] at H
 have c6b0:=eq_true c6
 have c6b1:decide (0≤(a2.size:Int))=true:=decide_eq_true c6
 clear c6
 by_cases c7:((a2.size:Int):Int).toNat≤281474976710656
 case neg =>
  rw [if_neg c7] at H
  exact absurd H (by simp)
 rw [if_pos c7] at H
 have c7b0:=eq_true c7
 have c7b1:decide (((a2.size:Int):Int).toNat≤281474976710656)=true:=decide_eq_true c7
 clear c7
 obtain ⟨y273,hy273⟩:∃ y_:List Int,y_=(List.replicate ((a2.size:Int):Int).toNat 0):=⟨_,rfl⟩
 replace H:(ctr_Cipher.l0 k a2 t272 y273 (a2.size:Int) 0)=some r:=by first|(rw [hy273]; with_reducible exact H)|(have H2_:=(Option.bind_some _ _).symm.trans H; rw [hy273]; with_reducible exact H2_)|(have H2_:=(Option.bind_some _ _).symm.trans H; with_reducible exact H2_)|with_reducible exact H|(rw [hy273]; exact H)|exact H
 have Ny273:=zK hy273
 clear hy273
 have H':=zK H
 clear H
 go_enter Tryd.func65,Tryd.ntmps65
 go_wp2_with (first|((with_reducible refine gate_callee (f:=82) rfl ?_); refine goesL_ (some 14) rfl rfl Tryd.func82 (by kernel_rfl) rfl #[.string a0,.string a1,.int .i64 (a2.size:Int)] rfl (by (try simp only [zm]); first|done|rfl|(simp only [zl]; rfl)) ?_; (with_reducible refine (ctr_Stream.calls a0 a1 (a2.size:Int) t272 _ A4.out).mono ?_); rintro e w8 ⟨rfl,hb⟩; refine ⟨_,rfl,?_⟩; have n0_:=zK (below_step (by repeat (first|(with_reducible first|exact HB.out|apply zA|apply zN|apply zD)|exact HB.out)) hb); clear HB; have HB:=n0_; clear n0_; (try clear hb); (try clear hb2); (try clear hk); (try clear hi))|((with_reducible refine gate_dst (N:=22) rfl ?_); refine Kd.R_make (Kd.int .u8) _ 5 rfl (N:=22) rfl 44 _ _ rfl (a2.size:Int) rfl rfl Tryd.underlying44 (.int .u8 0) 1 info5 rfl (by decide) (by omega) 0 (ok:=fun _=>True) (okp:=fun _=>True) rfl (fun _ hk=>hk) trivial (of_decide_eq_true (by first|(with_reducible assumption)|assumption)) (Nat.le_trans (Nat.mul_le_mul_right _ (of_decide_eq_true (by first|(with_reducible assumption)|assumption):(a2.size:Int).toNat≤281474976710656)) (by omega)) (Below.refl _ _) (Nat.le_refl _) ?_; intro v274 w9 ho10 hb hg_ hnew_; clear hg_ hnew_; (first|rw [← Ny273.out] at ho10|(simp only [Int.reduceToNat] at ho10; rw [← Ny273.out] at ho10)); have n0_:=zK (Kd.R_lower ho10 (below_size (by repeat (first|(with_reducible first|exact HB.out|apply zA|apply zN|apply zD)|exact HB.out)))); have n1_:=zK (below_step (by repeat (first|(with_reducible first|exact HB.out|apply zA|apply zN|apply zD)|exact HB.out)) hb); clear HB; have HO275:=n0_; have HB:=n1_; clear n0_ n1_; clear hb ho10))
 go_loopg [25] k (fun kq v25 w'=>∃ (x8_1:List Int) (x25_1:Int),v25=.int .i64 x25_1∧Aside0 (ctr_Cipher.l0 kq a2 t272 x8_1 (a2.size:Int) x25_1=some r)∧Aside0 (kq≤k)∧Aside0 (Kd.R (Kd.int .u8) 5 w' w.heap.size (fun _=>True) v274 x8_1)∧Aside0 (Below w.heap.size w w'))
 case atStart=>exact ⟨(y273),(0),(by first|rfl|(simp; done)|(simp [*]; done)),H',⟨Nat.le_refl _⟩,⟨by (with_reducible repeat (first|apply Kd.R_alloc|apply Kd.R_drewN|apply Kd.R_drew)); exact HO275.out⟩,⟨by repeat (first|(with_reducible first|exact HB.out|apply zA|apply zN|apply zD)|exact HB.out)⟩⟩
 case round =>
  clear H'
  try clear p2
  try clear c5
  try clear c5b0
  try clear c5b1
  try clear c5b2
  try clear c6
  try clear c6b0
  try clear c6b1
  try clear c7
  try clear c7b0
  try clear c7b1
  try clear c8
  obtain ⟨x8_1,x25_1,rfl,HA,HK1,HO_8,HB⟩:=hrel
  cases gk with
  | zero=>exact absurd HA.out (by simp [ctr_Cipher.l0])
  | succ k1 =>
   have H:=HA.out
   clear HA
   simp only [ctr_Cipher.l0] at H
   by_cases c11:x25_1<(a2.size:Int)
   case neg =>
    rw [if_neg c11] at H
    have c11b0:decide (x25_1<(a2.size:Int))=false:=decide_eq_false c11
    clear c11
    obtain rfl:=Option.some.inj H
    have hcv21:=own_string (P:=Tryd.prog) Tryd.underlying44 Tryd.underlying5 Tryd.underlying9 (Kd.own_of_R HO_8.out)
    go_wp2
    go_ret
    exact ⟨by first|rfl|(simp [errW_none,errW_some]<;>rfl)|(simp [*,errW_none,errW_some]<;>rfl),by repeat (first|(with_reducible first|exact HB.out|apply zA|apply zN|apply zD)|exact HB.out)⟩
   rw [if_pos c11] at H
   have c11b0:decide (x25_1<(a2.size:Int))=true:=decide_eq_true c11
   clear c11
   by_cases c12:0≤x25_1
   case neg =>
    rw [if_neg c12] at H
    exact absurd H (by simp)
   rw [if_pos c12] at H
   have c12b0:decide (0≤x25_1)=true:=decide_eq_true c12
   clear c12
   by_cases c13:x25_1<(a2.size:Int)
   case neg =>
    rw [if_neg c13] at H
    exact absurd H (by simp)
   rw [if_pos c13] at H
   have c13b0:decide (x25_1<(a2.size:Int))=true:=decide_eq_true c13
   clear c13
   by_cases c15:x25_1<(t272.size:Int)
   case neg =>
    rw [if_neg c15] at H
    exact absurd H (by simp)
   rw [if_pos c15] at H
   have c15b0:decide (x25_1<(t272.size:Int))=true:=decide_eq_true c15
   clear c15
   by_cases c17:x25_1<(x8_1.length:Int)
   case neg =>
    rw [if_neg c17] at H
    exact absurd H (by simp)
   rw [if_pos c17] at H
   have c17b0:decide (x25_1<(x8_1.length:Int))=true:=decide_eq_true c17
   clear c17
   obtain ⟨y276,hy276⟩:∃ y_:List Int,y_=(x8_1.set (x25_1:Int).toNat (Go.bits .xor .u8 (bt a2 x25_1) (bt t272 x25_1))):=⟨_,rfl⟩
   replace H:(ctr_Cipher.l0 k1 a2 t272 y276 (a2.size:Int) (wrap64 (x25_1+1)))=some r:=by first|(rw [hy276]; with_reducible exact H)|(have H2_:=(Option.bind_some _ _).symm.trans H; rw [hy276]; with_reducible exact H2_)|(have H2_:=(Option.bind_some _ _).symm.trans H; with_reducible exact H2_)|with_reducible exact H|(rw [hy276]; exact H)|exact H
   have Ny276:=zK hy276
   clear hy276
   have H':=zK H
   clear H
   try go_wp2
   have n0_:=zK (Kd.R_drew HO_8.out)
   have n1_:=zK (zD HB.out)
   clear HO_8
   clear HB
   have HO_8:=n0_
   have HB:=n1_
   clear n0_ n1_
   have p14:0≤(x25_1:Int):=of_decide_eq_true (by first|(with_reducible assumption)|assumption)
   have q14:x25_1<(a2.size:Int):=of_decide_eq_true (by first|(with_reducible assumption)|assumption)
   have hx14:=bt_at a2 x25_1
   replace p14:=eq_true p14
   replace q14:=eq_true q14
   have p16:0≤(x25_1:Int):=of_decide_eq_true (by first|(with_reducible assumption)|assumption)
   have q16:x25_1<(t272.size:Int):=of_decide_eq_true (by first|(with_reducible assumption)|assumption)
   have hx16:=bt_at t272 x25_1
   replace p16:=eq_true p16
   replace q16:=eq_true q16
   have p18:0≤(x25_1:Int):=of_decide_eq_true (by first|(with_reducible assumption)|assumption)
   have q18:(x25_1:Int)<((x8_1.length:Int):Int):=of_decide_eq_true (by first|(with_reducible assumption)|assumption)
   obtain ⟨go18,co18,eo18,gb18,gl18,cl18,HG18⟩:=Kd.R_form HO_8.out (by omega)
   (first|cases eo18|(injection eo18 with ea_ en_ ec_; (first|subst ea_|(injection ea_ with ea_; subst ea_)); subst ec_; clear en_))
   have GB18:=zK gb18
   have GG18:=zK HG18
   clear gb18 gl18 HG18
   obtain ⟨hx18_0,hf18_0⟩:=Kd.R_celln 0 HO_8.out (x25_1:Int) p18 q18
   replace p18:=eq_true p18
   replace q18:=eq_true q18
   have HP20:=Kd.R_putn HO_8.out (x25_1:Int) (Go.bits .xor .u8 (bt a2 x25_1) (bt t272 x25_1))
   rw [← Ny276.out] at HP20
   have HQ20:=zK HP20
   clear HP20
   refine start_ (n:=11) (S:=fun w'=>True) (ds:=[10]) #[G,G,G,G,G,G,G,G,G,G,G] (by kernel_rfl) rfl rfl trivial (fun hHeld=>?_); refine with_tabW ctr_Cipher.tab8 ctr_Cipher.bits8 (fun HT_ HW_=>?_)
   generalize wr.drew=w19 at HO_8 HB GG18 HQ20 hf18_0 hx18_0 hHeld ⊢
   refine zq 0 (some 28) ?_ #[O,G,G,G,G,G,G,G,G,G,G] rfl rfl (any_of HT_.out (by kernel_rfl)) (fun _ _ _ h=>h) (Or.inl ⟨by rfl,?_⟩) ?_ ?_ ?_
   rotate_left;(intro w';go_simp;with_reducible rfl);rotate_left;(simp only [Act.put,zp];rfl)
   refine zq 1 (some 29) ?_ #[O,O,G,G,G,G,G,G,G,G,G] rfl rfl (any_of HT_.out (by kernel_rfl)) (fun _ _ _ h=>h) (Or.inl ⟨by rfl,?_⟩) ?_ ?_ ?_
   rotate_left;(intro w';go_simp;with_reducible rfl);rotate_left;(simp only [Act.put,zp];rfl)
   refine zq 2 (some 30) ?_ #[O,O,O,G,G,G,G,G,G,G,G] rfl rfl (any_of HT_.out (by kernel_rfl)) (fun _ _ _ h=>h) (Or.inl ⟨by rfl,?_⟩) ?_ ?_ ?_
   rotate_left;(intro w';go_simp;with_reducible rfl);rotate_left;(simp only [Act.put,zp];rfl)
   refine zq 3 (some 31) ?_ #[O,O,O,O,G,G,G,G,G,G,G] rfl rfl (any_of HT_.out (by kernel_rfl)) (fun _ _ _ h=>h) (Or.inl ⟨by rfl,?_⟩) ?_ ?_ ?_
   rotate_left;(intro w';go_simp;with_reducible rfl);rotate_left;(simp only [Act.put,zp];rfl)
   refine zq 5 (some 33) ?_ #[O,O,O,O,G,O,G,G,G,G,G] rfl rfl (any_of HT_.out (by kernel_rfl)) (fun _ _ _ h=>h) (Or.inl ⟨by rfl,?_⟩) ?_ ?_ ?_
   rotate_left;(intro w';go_simp;with_reducible rfl);rotate_left;(simp only [Act.put,zp];rfl)
   refine zq 6 (some 34) ?_ #[O,O,O,O,G,O,O,G,G,G,G] rfl rfl (any_of HT_.out (by kernel_rfl)) (fun _ _ _ h=>h) (Or.inl ⟨by rfl,?_⟩) ?_ ?_ ?_
   rotate_left;(intro w';go_simp;with_reducible rfl);rotate_left;(simp only [Act.put,zp];rfl)
   refine take_ (i:=4) (N:=some 32) (v:=?_) (a':=?_) #[O,O,O,O,O,O,O,G,G,G,G] rfl rfl (take_ofW HT_.out HW_.out (by kernel_rfl)) (fun _ _ _ h=>h) (Or.inl ⟨by rfl,?_⟩) hHeld ?_ ?_
   rotate_left
   ·intro w' _
    go_simp
    with_reducible rfl
   rotate_left
   ·simp only [Act.put,zp]
    rfl
   refine take_ (i:=7) (N:=some 35) (v:=?_) (a':=?_) #[O,O,O,O,O,O,O,O,G,G,G] rfl rfl (take_ofW HT_.out HW_.out (by kernel_rfl)) (fun _ _ _ h=>h) (Or.inl ⟨by rfl,?_⟩) hHeld ?_ ?_
   rotate_left
   ·intro w' _
    go_simp
    with_reducible rfl
   rotate_left
   ·simp only [Act.put,zp]
    rfl
   refine zq 8 (some 36) ?_ #[O,O,O,O,O,O,O,O,O,G,G] rfl rfl (any_of HT_.out (by kernel_rfl)) (fun _ _ _ h=>h) (Or.inl ⟨by rfl,?_⟩) ?_ ?_ ?_
   rotate_left;(intro w';go_simp;with_reducible rfl);rotate_left;(simp only [Act.put,zp];rfl)
   refine zq 9 (some 37) ?_ #[O,O,O,O,O,O,O,O,O,O,G] rfl rfl (any_of HT_.out (by kernel_rfl)) (fun _ _ _ h=>h) (Or.inl ⟨by rfl,?_⟩) ?_ ?_ ?_
   rotate_left;(intro w';go_simp;with_reducible rfl);rotate_left;(simp only [Act.put,zp];rfl)
   refine last_ (i:=10) (N:=none) #[O,O,O,O,O,O,O,O,O,O,O] rfl rfl (one_of HT_.out (by kernel_rfl)) (by decide) (fun K hK=>?_)
   refine skip_ (w1:=?_) (by rfl) rfl ?_ ?_
   rotate_left
   ·go_simp
    rfl
   refine hK.out _ _ ?_
   clear hK K
   refine done_ (done_of HT_.out (by kernel_rfl)) ?_
   try go_wp2
   go_roundg k1
   case measure=>have:=HK1.out; omega
   case rel=>exact ⟨(y276),(wrap64 (x25_1+1)),(by first|rfl|(simp; done)|(simp [*]; done)),H',⟨by have:=HK1.out; omega⟩,⟨by (with_reducible repeat (first|apply Kd.R_alloc|apply Kd.R_drewN|apply Kd.R_drew)); exact HQ20.out⟩,⟨by repeat (first|(with_reducible first|exact HB.out|apply zA|apply zN|apply zD|refine below_set ?_ GB18.out)|exact HB.out)⟩⟩
end Go.Proofs.YtkgijkfcmbpgpaaDoor.PAll
end
