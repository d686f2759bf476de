import Derived.Test.YtkgijkfcmbpgpaaDoorS2b0
import Derived.Test.YtkgijkfcmbpgpaaDoorS2b1
import Derived.Test.YtkgijkfcmbpgpaaDoorS2b6
section
namespace Go.Proofs.YtkgijkfcmbpgpaaDoor.Giv
open Go.RowKit Go.Proofs.YtkgijkfcmbpgpaaDoorW.PrintWords Go.Proofs.YtkgijkfcmbpgpaaDoorW.PrintLast Go.Proofs.YtkgijkfcmbpgpaaDoorW.PrintMore Go.Proofs.YtkgijkfcmbpgpaaDoor.PSub
set_option linter.unusedVariables false
set_option linter.unusedSimpArgs false
theorem infoB:(Tryd.prog.info? 5).map (fun i=>(i.zero,i.size,i.bytes))=some (some (.int .u8 0),1,1):=by kernel_rfl
def zeroL (n:Nat):List Int:=List.replicate n 0
theorem zeroL_len (n:Nat):(zeroL n).length=n:=by simp [zeroL]
theorem zeroL_cells (n:Nat):(AK .u8 (zeroL n)).toList=List.replicate n (Value.int .u8 0):=by simp [AK,zeroL]
theorem makeB (W:World) (n:Nat) (h:n≤281474976710656):(Instr.makeSlice 44 (.int .i64 (n:Int)) (.int .i64 (n:Int))).run Tryd.prog W=.ok (.slice (some ⟨W.heap.size,0,none⟩) n n) (W.alloc (.cells (AK .u8 (zeroL n)) 5)):=by
 obtain ⟨i0,hi,hz0,hz1,hz2⟩:=info_parts infoB
 have e:=run_make (P:=Tryd.prog) W 44 5 i0 (.int .u8 0) Tryd.underlying44 hi hz0 .i64 .i64 (n:Int) (n:Int) (by omega) (by omega) (by rw [hz2]; omega) (by omega)
 rw [e]
 have e2:madeCells (Value.int IntKind.u8 0).cells (((n:Int)).toNat * i0.size)=AK .u8 (zeroL n):=by
  rw [hz1]
  apply Array.ext
  ·rw [size_madeCells,AK_size]; simp [zeroL]
  ·intro i h1 h2
   simp [madeCells,AK,Value.cells,Nat.mod_one,zeroL]
 rw [e2]
 simp
theorem copy_textB {P:Program} {w:World} {ops:Array Oper} {rest:List Oper} {o:Oper} {a:Act} {Q:Exit→Act→World→Prop} (hgd:o.guard=none) (d s:Operand) (dT sT:TypeId)
 (ho:o.op=.call { callee:=.builtin .copy,args:=#[d,s],argTypes:=#[dT,sT] }) (elem:TypeId) (hu:P.underlying dT=some (.slice elem)) (hsz:(P.info? elem).map (·.size)=some 1)
 (g off dLen dCap:Nat) (hd:a.eval d=.slice (some ⟨g,off,none⟩) dLen dCap) (x:ByteArray) (hs:a.eval s=.string x)
 (cur:Array Value) (t:TypeId) (hg:w.heap[g]? = some (.cells cur t (0,0))) (hle:x.size≤dLen) (hfit:off+x.size≤cur.size)
 (h:wpList P ops Q rest (a.put o.dst (goInt x.size)) (w.setRow g (cur.toList.take off++Lib.byteCells x.data.toList++cur.toList.drop (off+x.size)).toArray)):wpList P ops Q (o :: rest) a w:=by
 refine wpList_plain hgd fun K hK=>?_
 have hrun:=Lib.run_copy_row_string (P:=P) w dT sT o.type elem g off dLen dCap x cur t hu hsz hg hle hfit
 unfold Oper.wp
 simp [execOp,ho,resolve,invoke,builtin,hd,hs,hrun,Result.andThen]
 exact hK _ _ (by rw [List.append_assoc] at h; exact h)
theorem bytesOf_u8 (s:ByteArray):U8s (bytesOf s):=by
 intro x hx
 simp only [bytesOf,List.mem_map] at hx
 obtain ⟨b,_,rfl⟩:=hx
 have:=b.toNat_lt
 unfold U8; omega
def headB (s:ByteArray) (n:Nat):List Int:=bytesOf s++zeroL (n - s.size)
theorem headB_len (s:ByteArray) (n:Nat) (h:s.size≤n):(headB s n).length=n:=by simp [headB,bytesOf_length,zeroL_len]; omega
theorem headB_cells (s:ByteArray) (n:Nat) (h:s.size≤n):((List.replicate n (Value.int .u8 0)).take 0++Lib.byteCells s.data.toList++(List.replicate n (Value.int .u8 0)).drop (0+s.size)).toArray=AK .u8 (headB s n):=by
 simp [AK,headB,zeroL,bytesOf,Lib.byteCells]
def exW (t B:List Int) (r:Int) (i:Nat):List Int :=
  if i % 16=0 then [x8 (t.getD (B.getD (i - 3) 0).toNat 0) r,t.getD (B.getD (i - 2) 0).toNat 0,t.getD (B.getD (i - 1) 0).toNat 0,t.getD (B.getD (i - 4) 0).toNat 0]
  else [B.getD (i - 4) 0,B.getD (i - 3) 0,B.getD (i - 2) 0,B.getD (i - 1) 0]
def exPut (B w:List Int) (i:Nat):Nat→List Int
  | 0=>B
  | k+1=>(exPut B w i k).set (i+k) (x8 ((exPut B w i k).getD (i+k - 16) 0) (w.getD k 0))
def exR (r:Int) (i:Nat):Int:=if i % 16=0 then tw r else r
def exS (t B:List Int):Nat→List Int×Int
  | 0=>(B,1)
  | m+1=>(exPut (exS t B m).1 (exW t (exS t B m).1 (exS t B m).2 (16+4 * m)) (16+4 * m) 4,exR (exS t B m).2 (16+4 * m))
def expandL (t:List Int) (key:ByteArray):List Int:=(exS t (headB key 176) 40).1
theorem exPut_len (B w:List Int) (i:Nat):∀ k,(exPut B w i k).length=B.length
 | 0=>rfl
 | k+1=>by simp [exPut,exPut_len B w i k]
theorem exS_len (t B:List Int):∀ m,(exS t B m).1.length=B.length
 | 0=>rfl
 | m+1=>by unfold exS; rw [exPut_len,exS_len t B m]
theorem U8s.set {B:List Int} (h:U8s B) (i:Nat) {x:Int} (hx:U8 x):U8s (B.set i x):=by
 intro y hy
 rcases List.mem_or_eq_of_mem_set hy with h1|rfl
 ·exact h y h1
 ·exact hx
theorem exPut_u8 (B w:List Int) (i:Nat) (h:U8s B):∀ k,U8s (exPut B w i k)
 | 0=>h
 | k+1=>(exPut_u8 B w i h k).set _ (bits_u8 _ _ _ (.inr (.inr rfl)))
theorem exS_u8 (t B:List Int) (h:U8s B):∀ m,U8s (exS t B m).1
 | 0=>h
 | m+1=>exPut_u8 _ _ _ (exS_u8 t B h m) 4
theorem headB_u8 (s:ByteArray) (n:Nat):U8s (headB s n):=by
 intro x hx
 simp only [headB,List.mem_append,zeroL,List.mem_replicate] at hx
 rcases hx with h | ⟨_,rfl⟩
 ·exact bytesOf_u8 s x h
 ·unfold U8; omega
set_option maxHeartbeats 4000000 in
set_option maxRecDepth 100000 in
theorem aes_expand (t:List Int) (ht:t.length=256) (key:ByteArray) (hk:key.size=16) (w:World) :
 Calls Tryd.prog 97 #[.agg (AK .u8 t),.string key] w fun e w'=>e=.returned (.slice (some ⟨w.heap.size+1,0,none⟩) 176 176)∧w'.heap[w.heap.size+1]? = some (.cells (AK .u8 (expandL t key)) 5 (0,0))∧Below w.heap.size w w':=by
 have HTL:=zK ht
 have HC:=zK (headB_cells key 176 (by omega))
 have hmk:(Instr.makeSlice 44 (.int .i64 176) (.int .i64 176)).run Tryd.prog (w.alloc (.cells (AK .u8 t) 97))=_:=makeB (w.alloc (.cells (AK .u8 t) 97)) 176 (by omega)
 have HZ:=zK (heap_alloc2_new w (.cells (AK .u8 t) 97) (.cells (AK .u8 (zeroL 176)) 5))
 have HT0:=zK (heap_alloc2_old w (.cells (AK .u8 t) 97) (.cells (AK .u8 (zeroL 176)) 5))
 clear ht
 go_enter Tryd.func97,Tryd.ntmps97
 go_wp2_with (refine copy_textB rfl (.tmp 12) (.tmp 13) 44 9 rfl 5 Tryd.underlying44 (by kernel_rfl) (w.heap.size+1) 0 176 176 rfl key rfl (AK .u8 (zeroL 176)) 5 HZ.out (by omega) (by rw [AK_size,zeroL_len]; omega) ?_; rw [zeroL_cells,HC.out])
 have HR1:=zK (setRow_heap ((w.alloc (.cells (AK .u8 t) 97)).alloc (.cells (AK .u8 (zeroL 176)) 5)) (w.heap.size+1) _ (AK .u8 (headB key 176)) 5 (0,0) HZ.out)
 have HR0:=zK ((setRow_other ((w.alloc (.cells (AK .u8 t) 97)).alloc (.cells (AK .u8 (zeroL 176)) 5)) (w.heap.size+1) w.heap.size (AK .u8 (headB key 176)) (by omega)).trans HT0.out)
 have HBB:=zK (below_setRow (((Below.refl w.heap.size w).alloc (Nat.le_refl _) (.cells (AK .u8 t) 97)).alloc (by simp) (.cells (AK .u8 (zeroL 176)) 5)) (g:=w.heap.size+1) (by omega) (AK .u8 (headB key 176)))
 have HK8:=zK (headB_u8 key 176)
 have HKL:=zK (headB_len key 176 (by omega))
 clear HZ HT0 hmk
 go_loopw [6,7] (fun v6 v7 wr=>∃ m:Nat,m≤40∧v7=.int .i64 ((16+4 * m:Nat):Int)∧v6=.int .u8 (exS t (headB key 176) m).2∧Aside0 (wr.heap[w.heap.size+1]? = some (.cells (AK .u8 (exS t (headB key 176) m).1) 5 (0,0)))∧Aside0 (wr.heap[w.heap.size]? = some (.cells (AK .u8 t) 97 (0,0)))∧Aside0 (Below w.heap.size w wr)∧w.heap.size+2≤wr.heap.size) (fun _ v7 _=>176 - (intOf v7).toNat)
 case atStart=>exact ⟨0,by omega,rfl,rfl,HR1,HR0,HBB,by simp⟩
 case round =>
  clear HR1 HR0 HBB
  obtain ⟨m,hm,rfl,rfl,HR1,HR0,HBB,hs2⟩:=hrel
  by_cases hlt:m<40
  case neg =>
   obtain rfl:m=40:=by omega
   go_wp2
   go_ret
   exact ⟨rfl,HR1.out,HBB.out⟩
  obtain ⟨i,hi⟩:∃ i,i=16+4 * m:=⟨_,rfl⟩
  obtain ⟨B,hB⟩:∃ B,B=(exS t (headB key 176) m).1:=⟨_,rfl⟩
  obtain ⟨r,hr⟩:∃ r,r=(exS t (headB key 176) m).2:=⟨_,rfl⟩
  have HBL:Aside0 (B.length=176):=⟨by rw [hB,exS_len,HKL.out]⟩
  have HB8:Aside0 (U8s B):=⟨by rw [hB]; exact exS_u8 _ _ HK8.out m⟩
  have HNX:Aside0 (exS t (headB key 176) (m+1)=(exPut B (exW t B r i) i 4,exR r i)):=⟨by rw [hB,hr,hi]; rfl⟩
  rw [← hi,← hr]
  rw [← hB] at HR1
  clear hB hr
  have i1:16≤i:=by omega
  have i2:i+4≤176:=by omega
  have HI:=zK hi
  clear hi
  have t0:decide ((i:Int)<176)=true:=decide_eq_true (by omega)
  have ew:IntKind.i64.wrap ((i:Int) - 4)=(i:Int) - 4:=IntWalk.i64_in _ (by omega)
  have hsl:∀ W:World,(Instr.slice 44 (.slice (some ⟨w.heap.size+1,0,none⟩) 176 176) (some (.int .i64 ((i:Int) - 4))) (some (.int .i64 (i:Int))) none).run Tryd.prog W=.ok (.slice (some ⟨w.heap.size+1,i - 4,none⟩) 4 (180 - i)) W:=fun W=>by
   rw [run_slice_lh (P:=Tryd.prog) W 44 (some ⟨w.heap.size+1,0,none⟩) 176 176 (by kernel_rfl) .i64 .i64 ((i:Int) - 4) (i:Int) (by omega) (by omega) (by omega)]
   have hsz:(sizeOf (Tryd.prog.elem 44)).run Tryd.prog W=.ok 1 W:=by kernel_rfl
   rw [hsz]
   simp only [Result.andThen,sliced]
   rw [if_neg (by omega),show ((i:Int) - 4).toNat=i - 4 from by omega,Int.toNat_natCast,show i - (i - 4)=4 from by omega,show 176 - (i - 4)=180 - i from by omega]
   simp [Addr.add_mid]
  have har:∀ W:World,(Instr.arrayAt 107 (.slice (some ⟨w.heap.size+1,i - 4,none⟩) 4 (180 - i))).run Tryd.prog W=.ok (.pointer (some ⟨w.heap.size+1,i - 4,none⟩)) W:=fun W=>run_arrayAt (P:=Tryd.prog) W 107 5 4 _ 4 (180 - i) Tryd.underlying107 (by omega)
  have HRG:Aside0 (wr.rangeAt (w.heap.size+1) (i - 4) [.int .u8 (B.getD (i - 4) 0),.int .u8 (B.getD (i - 3) 0),.int .u8 (B.getD (i - 2) 0),.int .u8 (B.getD (i - 1) 0)]):=⟨fun j v hj=>by
   match j with
   | 0=>rw [← Option.some.inj hj]; exact AK_cell HR1.out (i - 4) (by rw [HBL.out]; omega)
   | 1=>rw [← Option.some.inj hj,show i - 4+1=i - 3 from by omega]; exact AK_cell HR1.out (i - 3) (by rw [HBL.out]; omega)
   | 2=>rw [← Option.some.inj hj,show i - 4+2=i - 2 from by omega]; exact AK_cell HR1.out (i - 2) (by rw [HBL.out]; omega)
   | 3=>rw [← Option.some.inj hj,show i - 4+3=i - 1 from by omega]; exact AK_cell HR1.out (i - 1) (by rw [HBL.out]; omega)
   | j+4=>simp at hj⟩
  have HNW:=zK (heap_alloc_new wr (.cells (AK .u8 [0,0,0,0]) 107))
  obtain ⟨b0,h0⟩:∃ x,x=B.getD (i - 4) 0:=⟨_,rfl⟩
  obtain ⟨b1,h1⟩:∃ x,x=B.getD (i - 3) 0:=⟨_,rfl⟩
  obtain ⟨b2,h2⟩:∃ x,x=B.getD (i - 2) 0:=⟨_,rfl⟩
  obtain ⟨b3,h3⟩:∃ x,x=B.getD (i - 1) 0:=⟨_,rfl⟩
  rw [← h0,← h1,← h2,← h3] at HRG
  have u0:=HB8.out.at (i - 4)
  have u1:=HB8.out.at (i - 3)
  have u2:=HB8.out.at (i - 2)
  have u3:=HB8.out.at (i - 1)
  rw [← h0] at u0
  rw [← h1] at u1
  rw [← h2] at u2
  rw [← h3] at u3
  have K0:=zK h0
  have K1:=zK h1
  have K2:=zK h2
  have K3:=zK h3
  have U0:=zK u0
  have U1:=zK u1
  have U2:=zK u2
  have U3:=zK u3
  clear h0 h1 h2 h3 u0 u1 u2 u3
  by_cases h16:i % 16=0
  case neg =>
   have t1:((i:Int) % 16 == 0)=false:=by rw [beq_eq_false_iff_ne]; omega
   have HVE:Aside0 ([b0,b1,b2,b3]=exW t B r i):=⟨by unfold exW; rw [if_neg h16,K0.out,K1.out,K2.out,K3.out]⟩
   have HRE:Aside0 (exR r i=r):=⟨by unfold exR; rw [if_neg h16]⟩
   obtain ⟨V,hV⟩:∃ V,V=[b0,b1,b2,b3]:=⟨_,rfl⟩
   have HVL:Aside0 (V.length=4):=⟨by rw [hV]; rfl⟩
   have HVQ:=zK hV
   clear hV
   rw [← HVQ.out] at HVE
   have HM1:=zK ((setRow_other (wr.alloc (.cells (AK .u8 [0,0,0,0]) 107)) wr.heap.size (w.heap.size+1) (AK .u8 V) (by omega)).trans ((Below.heap_alloc wr (.cells (AK .u8 [0,0,0,0]) 107) (w.heap.size+1) (by omega)).trans HR1.out))
   have HM0:=zK ((setRow_other (wr.alloc (.cells (AK .u8 [0,0,0,0]) 107)) wr.heap.size w.heap.size (AK .u8 V) (by omega)).trans ((Below.heap_alloc wr (.cells (AK .u8 [0,0,0,0]) 107) w.heap.size (by omega)).trans HR0.out))
   have HMV:=zK (setRow_heap (wr.alloc (.cells (AK .u8 [0,0,0,0]) 107)) wr.heap.size _ (AK .u8 V) 107 (0,0) HNW.out)
   have HMB:=zK (below_setRow (HBB.out.alloc HBB.out.size (.cells (AK .u8 [0,0,0,0]) 107)) (g:=wr.heap.size) HBB.out.size (AK .u8 V))
   have HMS:=zK (show wr.heap.size<((wr.alloc (.cells (AK .u8 [0,0,0,0]) 107)).setRow wr.heap.size (AK .u8 V)).heap.size by simp)
   go_wp2_with (first|(refine wpList_load_mid rfl 107 (.tmp 26) rfl (w.heap.size+1) (i - 4) rfl [.int .u8 b0,.int .u8 b1,.int .u8 b2,.int .u8 b3] _ HRG.out Tryd.underlying107 rfl (by kernel_rfl) ?_)|(refine wpList_store_row rfl 107 (.tmp 8) (.tmp 27) rfl wr.heap.size (AK .u8 V) rfl (by rw [HVQ.out]; rfl) 107 (AK .u8 [0,0,0,0]) HNW.out (by rw [AK_size,HVL.out]; kernel_rfl) (by rw [AK_size,AK_size,HVL.out]; rfl) (AK_one _ _) ?_)|(refine wpList_load_row rfl 107 (.tmp 8) rfl wr.heap.size rfl 107 (AK .u8 V) (0,0) _ HMV.out Tryd.underlying107 rfl (by rw [AK_size,HVL.out]; kernel_rfl) ?_))
   clear HMV HNW HRG hsl har t1
   go_loopw [53] (fun v53 wq=>∃ k:Nat,k≤4∧v53=.int .i64 k∧Aside0 (wq.heap[w.heap.size+1]? = some (.cells (AK .u8 (exPut B V i k)) 5 (0,0)))∧Aside0 (wq.heap[w.heap.size]? = some (.cells (AK .u8 t) 97 (0,0)))∧Aside0 (Below w.heap.size w wq)∧w.heap.size+2≤wq.heap.size) (fun v53 _=>4 - (intOf v53).toNat)
   case atStart=>exact ⟨0,by omega,rfl,HM1,HM0,HMB,by have:=HMS.out; simp; omega⟩
   case round =>
    clear HM1 HM0 HMB HMS
    obtain ⟨k,hk4,rfl,HQ1,HQ0,HQB,hs3⟩:=hrel
    by_cases hlt4:k<4
    case neg =>
     obtain rfl:k=4:=by omega
     go_wp2
     go_roundw
     case rel=>exact ⟨m+1,by omega,by first|(rw [HI.out]; rfl)|(rw [HI.out]; congr 1; omega),by rw [HNX.out]; exact congrArg _ (HRE.out.symm),⟨by rw [HNX.out,← HVE.out]; exact HQ1.out⟩,HQ0,HQB,hs3⟩
     case measure=>simp [intOf]; omega
    have hidx:=run_index_AK (P:=Tryd.prog) (T:=107) (q:=.u8) (l:=V) Tryd.underlying107 HVL.out (e:=5) (fun _=>by kernel_rfl) (fun _=>by kernel_rfl) k (by rw [HVL.out]; exact hlt4)
    obtain ⟨v,hv⟩:∃ x,x=V.getD k 0:=⟨_,rfl⟩
    rw [← hv] at hidx
    have HV2:=zK hv
    clear hv
    have t4:decide ((k:Int)<4)=true:=decide_eq_true (by omega)
    have e1:IntKind.i64.wrap ((i:Int)+(k:Int))=(i:Int)+(k:Int):=IntWalk.i64_in _ (by omega)
    have e2:IntKind.i64.wrap ((i:Int)+(k:Int) - 16)=(i:Int)+(k:Int) - 16:=IntWalk.i64_in _ (by omega)
    have n1:((i:Int)+(k:Int)).toNat=i+k:=by omega
    have n2:((i:Int)+(k:Int) - 16).toNat=i+k - 16:=by omega
    have p1:(0:Int)≤(i:Int)+(k:Int):=by omega
    have p2:(0:Int)≤(i:Int)+(k:Int) - 16:=by omega
    have q1:(i:Int)+(k:Int)<176:=by omega
    have q2:(i:Int)+(k:Int) - 16<176:=by omega
    obtain ⟨u,hu⟩:∃ x,x=(exPut B V i k).getD (i+k - 16) 0:=⟨_,rfl⟩
    have c1:=AK_cell HQ1.out (i+k - 16) (by rw [exPut_len,HBL.out]; omega)
    rw [← hu] at c1
    have HU2:=zK hu
    clear hu
    have c2:=AK_cell HQ1.out (i+k) (by rw [exPut_len,HBL.out]; omega)
    have c3:=frozen_of_row wr (w.heap.size+1) (i+k) _ _ HQ1.out
    go_wp2_with fail
    go_roundw
    case rel =>
     refine ⟨k+1,by omega,by go_num,⟨?_⟩,⟨?_⟩,⟨?_⟩,by simp; omega⟩
     ·refine (AK_store (w:=wr) HQ1.out (i+k) _).trans ?_
      show some (Obj.cells (AK .u8 ((exPut B V i k).set (i+k) (x8 u v))) 5 (0,0))=_
      rw [HU2.out,HV2.out]; rfl
     ·exact (heap_setCell_other wr _ _ _ (by simp)).trans HQ0.out
     ·exact HQB.out.setCell (by simp) _
    case measure=>simp [intOf]; omega
  have t1:((i:Int) % 16 == 0)=true:=by rw [beq_iff_eq]; omega
  have HM1:=zK ((setRow_other (wr.alloc (.cells (AK .u8 [0,0,0,0]) 107)) wr.heap.size (w.heap.size+1) (AK .u8 [b0,b1,b2,b3]) (by omega)).trans ((Below.heap_alloc wr (.cells (AK .u8 [0,0,0,0]) 107) (w.heap.size+1) (by omega)).trans HR1.out))
  have HM0:=zK ((setRow_other (wr.alloc (.cells (AK .u8 [0,0,0,0]) 107)) wr.heap.size w.heap.size (AK .u8 [b0,b1,b2,b3]) (by omega)).trans ((Below.heap_alloc wr (.cells (AK .u8 [0,0,0,0]) 107) w.heap.size (by omega)).trans HR0.out))
  have HMV:=zK (setRow_heap (wr.alloc (.cells (AK .u8 [0,0,0,0]) 107)) wr.heap.size _ (AK .u8 [b0,b1,b2,b3]) 107 (0,0) HNW.out)
  have HMB:=zK (below_setRow (HBB.out.alloc HBB.out.size (.cells (AK .u8 [0,0,0,0]) 107)) (g:=wr.heap.size) HBB.out.size (AK .u8 [b0,b1,b2,b3]))
  have HMS:=zK (show wr.heap.size<((wr.alloc (.cells (AK .u8 [0,0,0,0]) 107)).setRow wr.heap.size (AK .u8 [b0,b1,b2,b3])).heap.size by simp)
  go_wp2_with (first|(refine wpList_load_mid rfl 107 (.tmp 26) rfl (w.heap.size+1) (i - 4) rfl [.int .u8 b0,.int .u8 b1,.int .u8 b2,.int .u8 b3] _ HRG.out Tryd.underlying107 rfl (by kernel_rfl) ?_)|(refine wpList_store_row rfl 107 (.tmp 8) (.tmp 27) rfl wr.heap.size (AK .u8 [b0,b1,b2,b3]) rfl rfl 107 (AK .u8 [0,0,0,0]) HNW.out (by kernel_rfl) rfl (AK_one _ _) ?_))
  refine code_at (fun W=>W.heap[wr.heap.size]? = some (.cells (AK .u8 [b0,b1,b2,b3]) 107 (0,0))∧W.heap[w.heap.size+1]? = some (.cells (AK .u8 B) 5 (0,0))∧W.heap[w.heap.size]? = some (.cells (AK .u8 t) 97 (0,0))∧Below w.heap.size w W∧wr.heap.size<W.heap.size) ⟨HMV.out,HM1.out,HM0.out,HMB.out,HMS.out⟩ ?_
  rintro W0 ⟨hv0,hv1,hv2,hv3,hv4⟩
  clear HM1 HM0 HMV HMB HMS HNW HRG hsl har
  have HVV:=zK hv0
  have HV1:=zK hv1
  have HV0:=zK hv2
  have HVB:=zK hv3
  have c0:=AK_cell hv0 0 (by simp)
  have c1:=AK_cell hv0 1 (by simp)
  have c2:=AK_cell hv0 2 (by simp)
  have c3:=AK_cell hv0 3 (by simp)
  have d0:=AK_cell hv2 b0.toNat (by rw [HTL.out]; have:=U0.out; unfold U8 at this; omega)
  have d1:=AK_cell hv2 b1.toNat (by rw [HTL.out]; have:=U1.out; unfold U8 at this; omega)
  have d2:=AK_cell hv2 b2.toNat (by rw [HTL.out]; have:=U2.out; unfold U8 at this; omega)
  have d3:=AK_cell hv2 b3.toNat (by rw [HTL.out]; have:=U3.out; unfold U8 at this; omega)
  obtain ⟨y0,hy0⟩:∃ x,x=t.getD b0.toNat 0:=⟨_,rfl⟩
  obtain ⟨y1,hy1⟩:∃ x,x=t.getD b1.toNat 0:=⟨_,rfl⟩
  obtain ⟨y2,hy2⟩:∃ x,x=t.getD b2.toNat 0:=⟨_,rfl⟩
  obtain ⟨y3,hy3⟩:∃ x,x=t.getD b3.toNat 0:=⟨_,rfl⟩
  rw [← hy0] at d0
  rw [← hy1] at d1
  rw [← hy2] at d2
  rw [← hy3] at d3
  simp only [List.getD_cons_zero,List.getD_cons_succ] at c0 c1 c2 c3
  have p0:=U0.out.1
  have q0:=U0.out.2
  have p1:=U1.out.1
  have q1:=U1.out.2
  have p2:=U2.out.1
  have q2:=U2.out.2
  have p3:=U3.out.1
  have q3:=U3.out.2
  have HVE:Aside0 ([x8 y1 r,y2,y3,y0]=exW t B r i):=⟨by unfold exW; rw [if_pos h16,hy0,hy1,hy2,hy3,K0.out,K1.out,K2.out,K3.out]⟩
  have HRE:Aside0 (exR r i=tw r):=⟨by unfold exR; rw [if_pos h16]⟩
  clear hv0 hv1 hv2 hv3 hy0 hy1 hy2 hy3
  obtain ⟨V,hV⟩:∃ V,V=[x8 y1 r,y2,y3,y0]:=⟨_,rfl⟩
  have HVL:Aside0 (V.length=4):=⟨by rw [hV]; rfl⟩
  have HVQ:=zK hV
  clear hV
  rw [← HVQ.out] at HVE
  go_still_tail 19,(by kernel_rfl)
  go_wp2_with (first|(refine wpList_store_row rfl 107 (.tmp 8) (.tmp 49) rfl wr.heap.size (AK .u8 V) rfl (by rw [HVQ.out]; rfl) 107 (AK .u8 [b0,b1,b2,b3]) HVV.out (by rw [AK_size,HVL.out]; kernel_rfl) (by rw [AK_size,AK_size,HVL.out]; rfl) (AK_one _ _) ?_)|(go_at_call 102; refine (aes_twice.calls _ _ _ (tw_some _)).mono ?_; rintro e w' ⟨rfl,mm,rfl⟩)|(refine wpList_load_row rfl 107 (.tmp 8) rfl wr.heap.size rfl 107 (AK .u8 V) (0,0) _ (show _ from setRow_heap (W0.drewN _) wr.heap.size _ (AK .u8 V) 107 (0,0) HVV.out) Tryd.underlying107 rfl (by rw [AK_size,HVL.out]; kernel_rfl) ?_))
  go_loopw [53] (fun v53 wq=>∃ k:Nat,k≤4∧v53=.int .i64 k∧Aside0 (wq.heap[w.heap.size+1]? = some (.cells (AK .u8 (exPut B V i k)) 5 (0,0)))∧Aside0 (wq.heap[w.heap.size]? = some (.cells (AK .u8 t) 97 (0,0)))∧Aside0 (Below w.heap.size w wq)∧w.heap.size+2≤wq.heap.size) (fun v53 _=>4 - (intOf v53).toNat)
  case atStart=>exact ⟨0,by omega,rfl,⟨(setRow_other (W0.drewN _) _ _ _ (by omega)).trans HV1.out⟩,⟨(setRow_other (W0.drewN _) _ _ _ (by omega)).trans HV0.out⟩,⟨zN (below_setRow (zN HVB.out _) HBB.out.size _) _⟩,by have:=hv4; simp; omega⟩
  case round =>
   clear HVV HV1 HV0 HVB c0 c1 c2 c3 d0 d1 d2 d3 p0 p1 p2 p3 q0 q1 q2 q3 t1
   obtain ⟨k,hk4,rfl,HQ1,HQ0,HQB,hs3⟩:=hrel
   by_cases hlt4:k<4
   case neg =>
    obtain rfl:k=4:=by omega
    go_wp2
    go_roundw
    case rel=>exact ⟨m+1,by omega,by first|(rw [HI.out]; rfl)|(rw [HI.out]; congr 1; omega),by rw [HNX.out]; exact congrArg _ (HRE.out.symm),⟨by rw [HNX.out,← HVE.out]; exact HQ1.out⟩,HQ0,HQB,hs3⟩
    case measure=>simp [intOf]; omega
   have hidx:=run_index_AK (P:=Tryd.prog) (T:=107) (q:=.u8) (l:=V) Tryd.underlying107 HVL.out (e:=5) (fun _=>by kernel_rfl) (fun _=>by kernel_rfl) k (by rw [HVL.out]; exact hlt4)
   obtain ⟨v,hv⟩:∃ x,x=V.getD k 0:=⟨_,rfl⟩
   rw [← hv] at hidx
   have HV2:=zK hv
   clear hv
   have t4:decide ((k:Int)<4)=true:=decide_eq_true (by omega)
   have e1:IntKind.i64.wrap ((i:Int)+(k:Int))=(i:Int)+(k:Int):=IntWalk.i64_in _ (by omega)
   have e2:IntKind.i64.wrap ((i:Int)+(k:Int) - 16)=(i:Int)+(k:Int) - 16:=IntWalk.i64_in _ (by omega)
   have n1:((i:Int)+(k:Int)).toNat=i+k:=by omega
   have n2:((i:Int)+(k:Int) - 16).toNat=i+k - 16:=by omega
   have p1:(0:Int)≤(i:Int)+(k:Int):=by omega
   have p2:(0:Int)≤(i:Int)+(k:Int) - 16:=by omega
   have q1:(i:Int)+(k:Int)<176:=by omega
   have q2:(i:Int)+(k:Int) - 16<176:=by omega
   obtain ⟨u,hu⟩:∃ x,x=(exPut B V i k).getD (i+k - 16) 0:=⟨_,rfl⟩
   have c1:=AK_cell HQ1.out (i+k - 16) (by rw [exPut_len,HBL.out]; omega)
   rw [← hu] at c1
   have HU2:=zK hu
   clear hu
   have c2:=AK_cell HQ1.out (i+k) (by rw [exPut_len,HBL.out]; omega)
   have c3:=frozen_of_row wr (w.heap.size+1) (i+k) _ _ HQ1.out
   go_wp2_with fail
   go_roundw
   case rel =>
    refine ⟨k+1,by omega,by go_num,⟨?_⟩,⟨?_⟩,⟨?_⟩,by simp; omega⟩
    ·refine (AK_store (w:=wr) HQ1.out (i+k) _).trans ?_
     show some (Obj.cells (AK .u8 ((exPut B V i k).set (i+k) (x8 u v))) 5 (0,0))=_
     rw [HU2.out,HV2.out]; rfl
    ·exact (heap_setCell_other wr _ _ _ (by simp)).trans HQ0.out
    ·exact HQB.out.setCell (by simp) _
   case measure=>simp [intOf]; omega
end Go.Proofs.YtkgijkfcmbpgpaaDoor.Giv
end
section
namespace Go.Proofs.YtkgijkfcmbpgpaaDoor.Giv
open Go.RowKit Go.Proofs.YtkgijkfcmbpgpaaDoorW.PrintWords Go.Proofs.YtkgijkfcmbpgpaaDoorW.PrintLast Go.Proofs.YtkgijkfcmbpgpaaDoorW.PrintMore Go.Proofs.YtkgijkfcmbpgpaaDoor.PSub
set_option linter.unusedVariables false
set_option linter.unusedSimpArgs false
def encR (t K s:List Int) (k:Nat):List Int :=
  if k<10 then adS (mxS (shS s t 16) 4) (K.drop (16 * k)) 16 else adS (shS s t 16) (K.drop (16 * k)) 16
def encS (t K s:List Int):Nat→List Int
  | 0=>adS s K 16
  | k+1=>encR t K (encS t K s k) (k+1)
def encB (key block:ByteArray):ByteArray:=strOfNums (encS swapsL (expandL swapsL key) (bytesOf block) 10)
theorem encR_len (t K s:List Int) (k:Nat):(encR t K s k).length=s.length:=by
 unfold encR
 split<;>simp [adS_len,mxS_len,shS_len]
theorem encS_len (t K s:List Int):∀ k,(encS t K s k).length=s.length
 | 0=>by simp [encS,adS_len]
 | k+1=>by unfold encS; rw [encR_len,encS_len t K s k]
theorem adS_u8 (s K:List Int) (h:U8s s):∀ k,U8s (adS s K k)
 | 0=>h
 | k+1=>(adS_u8 s K h k).set _ (bits_u8 _ _ _ (.inr (.inr rfl)))
theorem encS_u8 (t K s:List Int) (h:U8s s) (hl:s.length=16) (ht:U8s t):∀ k,U8s (encS t K s k):=by
 have sh:∀ (s:List Int),U8s s→∀ k,U8s (shS s t k):=fun s hs k=>by
  induction k with
  | zero=>exact hs
  | succ k ih=>exact ih.set _ (ht.at _)
 have mx:∀ (L:List Int),U8s L→∀ i,U8s (mxRow L i):=fun L hL i=>by
  have q:∀ a b,U8 (x8 a b):=fun a b=>bits_u8 _ _ _ (.inr (.inr rfl))
  unfold mxRow mx4
  exact (((hL.set _ (q _ _)).set _ (q _ _)).set _ (q _ _)).set _ (q _ _)
 have mS:∀ (s:List Int),U8s s→∀ k,U8s (mxS s k):=fun s hs k=>by
  induction k with
  | zero=>exact hs
  | succ k ih=>exact mx _ ih _
 intro k
 induction k with
 | zero=>exact adS_u8 _ _ h 16
 | succ k ih =>
  unfold encS encR
  split
  ·exact adS_u8 _ _ (mS _ (sh _ ih 16) 4) 16
  ·exact adS_u8 _ _ (sh _ ih 16) 16
theorem swT_u8:∀ k,U8s (swT k)
 | 0=>fun x hx=>by unfold swT at hx; rw [List.mem_replicate] at hx; rw [hx.2]; unfold U8; omega
 | k+1=>(swT_u8 k).set _ (bits_u8 _ _ _ (.inr (.inr rfl)))
theorem swapsL_u8:U8s swapsL:=(swT_u8 255).set 0 (by unfold U8; omega)
def aes_Encrypt.f (a0 a1:ByteArray):Option ByteArray:=if a0.size=16∧a1.size=16 then some (encB a0 a1) else some ⟨#[]⟩
def EncW (w:World) (gT gK gS:Nat) (t K s:List Int) (W:World):Prop :=
  W.heap[gS]? = some (.cells (AK .u8 s) 101 (0,0))∧W.heap[gT]? = some (.cells (AK .u8 t) 97 (0,0))∧W.heap[gK]? = some (.cells (AK .u8 K) 5 (0,0))∧Below w.heap.size w W
theorem EncW.turned {w:World} {gT gK gS:Nat} {t K s s':List Int} {W W':World} (h:EncW w gT gK gS t K s W) (ht:Turned W gS s' W') (h1:gT≠gS) (h2:gK≠gS) (h3:w.heap.size≤gS):EncW w gT gK gS t K s' W':=by
 obtain ⟨a,b,c,d⟩:=h
 refine ⟨ht.1,(ht.2.block gT (Array.getElem?_eq_some_iff.1 b).1 (fun e=>h1 (Option.some.inj e))).trans b,(ht.2.block gK (Array.getElem?_eq_some_iff.1 c).1 (fun e=>h2 (Option.some.inj e))).trans c,d.grown ht.2 d.size (fun k hk=>by rw [← Option.some.inj hk]; exact h3)⟩
set_option maxHeartbeats 4000000 in
set_option maxRecDepth 100000 in
theorem aes_Encrypt.calls (a0 a1:ByteArray) (r:ByteArray) (w:World) (h:aes_Encrypt.f a0 a1=some r) :
 Calls Tryd.prog 93 #[.string a0,.string a1] w fun e w'=>e=.returned (.string r)∧Below w.heap.size w w':=by
 unfold aes_Encrypt.f at h
 by_cases h0:a0.size=16
 case neg =>
  have t0:((a0.size:Int) != 16)=true:=by rw [bne_iff_ne]; omega
  rw [if_neg (fun hh=>h0 hh.1)] at h
  obtain rfl:=Option.some.inj h
  clear h h0
  go_enter Tryd.func93,Tryd.ntmps93
  go_wp2
  go_ret
  exact ⟨rfl,Below.refl _ _⟩
 have t0:((a0.size:Int) != 16)=false:=by simp [h0]
 by_cases h1:a1.size=16
 case neg =>
  have t1:((a1.size:Int) != 16)=true:=by rw [bne_iff_ne]; omega
  rw [if_neg (fun hh=>h1 hh.2)] at h
  obtain rfl:=Option.some.inj h
  clear h h0 h1
  go_enter Tryd.func93,Tryd.ntmps93
  go_wp2
  go_ret
  exact ⟨rfl,Below.refl _ _⟩
 have t1:((a1.size:Int) != 16)=false:=by simp [h1]
 rw [if_pos ⟨h0,h1⟩] at h
 obtain rfl:=Option.some.inj h
 have H0:=zK h0
 have H1:=zK h1
 clear h h0 h1
 go_enter Tryd.func93,Tryd.ntmps93
 go_wp2_with fail
 refine (aes_swaps _).mono ?_
 rintro e w1 ⟨rfl,hb1⟩
 have HB1:=zK hb1
 have HZ:=zK ((heap_alloc_new w1 (.cells (AK .u8 (swT 0)) 97)))
 clear hb1
 have hz:=zero256
 obtain ⟨L,hL⟩:∃ L,L=swapsL:=⟨_,rfl⟩
 have HLE:=zK hL
 have HLL:Aside0 (L.length=256):=⟨by rw [hL,swapsL_len]⟩
 rw [← hL]
 clear hL
 have HX:=zK (setRow_heap (w1.alloc (.cells (AK .u8 (swT 0)) 97)) w1.heap.size _ (AK .u8 L) 97 (0,0) HZ.out)
 go_wp2_with (first|(refine wpList_store_row rfl 97 (.tmp 5) (.tmp 17) rfl w1.heap.size (AK .u8 L) rfl rfl 97 (AK .u8 (swT 0)) HZ.out (by rw [AK_size,HLL.out]; kernel_rfl) (by rw [AK_size,AK_size,HLL.out,swT_len]) (AK_one _ _) ?_)|(refine wpList_load_row rfl 97 (.tmp 5) rfl w1.heap.size rfl 97 (AK .u8 L) (0,0) _ HX.out Tryd.underlying97 rfl (by rw [AK_size,HLL.out]; kernel_rfl) ?_)|(go_at_call 97; refine (aes_expand L HLL.out a0 H0.out _).mono ?_; rintro e w3 ⟨rfl,hk3,hb3⟩))
 have hKlen:(expandL L a0).length=176:=by unfold expandL; rw [exS_len,headB_len _ _ (by rw [H0.out]; omega)]
 have kb:=print_bytes (P:=Tryd.prog) 9 44 5 Tryd.underlying9 Tryd.underlying44 Tryd.underlying5 a1 w3
 have har:∀ W:World,(Instr.arrayAt 101 (.slice (some ⟨w3.heap.size,0,none⟩) a1.size (grownCap w3 a1.size 0 5))).run Tryd.prog W=.ok (.pointer (some ⟨w3.heap.size,0,none⟩)) W:=fun W=>run_arrayAt (P:=Tryd.prog) W 101 5 16 _ a1.size _ Tryd.underlying101 (by rw [H1.out]; omega)
 obtain ⟨K,hK⟩:∃ K,K=expandL L a0:=⟨_,rfl⟩
 obtain ⟨s,hs⟩:∃ s,s=bytesOf a1:=⟨_,rfl⟩
 have hsl:s.length=16:=by rw [hs,bytesOf_length,H1.out]
 rw [← hK] at hKlen hk3
 have HKE:=zK hK
 have HSE:=zK hs
 have HKL:=zK hKlen
 have HSL:=zK hsl
 have HS8:Aside0 (U8s s):=⟨by rw [hs]; exact bytesOf_u8 a1⟩
 have HRG:Aside0 ((Lib.bytesWorld w3 5 a1).rangeAt w3.heap.size 0 (s.map (Value.int .u8))):=⟨fun j v hj=>by
  have hj1:j<s.length:=by have:=(List.getElem?_eq_some_iff.1 hj).1; simpa using this
  rw [Nat.zero_add,Lib.bytesWorld_cell w3 5 a1 j (by rw [H1.out]; omega)]
  rw [← hj,hs]
  have h':j<a1.data.toList.length:=by rw [data_length,H1.out]; omega
  simp [bytesOf,List.getD_eq_getElem?_getD,List.getElem?_eq_getElem h']⟩
 have B3:Below w.heap.size w w3:=(below_setRow (HB1.out.alloc HB1.out.size (.cells (AK .u8 (swT 0)) 97)) (g:=w1.heap.size) HB1.out.size (AK .u8 L)).trans (hb3.mono (by have:=HB1.out.size; simp; omega))
 have E3:=zK (show w3.heap[w1.heap.size]? = some (.cells (AK .u8 L) 97 (0,0)) from (hb3.block w1.heap.size (by simp)).trans HX.out)
 have E3K:=zK (show w3.heap[w1.heap.size+1+1]? = some (.cells (AK .u8 K) 5 (0,0)) by simpa using hk3)
 have hs3:w1.heap.size+1+1<w3.heap.size:=(Array.getElem?_eq_some_iff.1 E3K.out).1
 have hb4:Below w.heap.size w (Lib.bytesWorld w3 5 a1):=bytes_below B3 B3.size 5 a1
 have hz4:(Lib.bytesWorld w3 5 a1).heap.size=w3.heap.size+1:=Lib.bytesWorld_size w3 5 a1
 have E4:=zK ((Lib.bytesWorld_at_old w3 5 a1 w1.heap.size (by omega)).trans E3.out)
 have E4K:=zK ((Lib.bytesWorld_at_old w3 5 a1 (w1.heap.size+1+1) hs3).trans E3K.out)
 obtain ⟨w4,hw4⟩:∃ w4,w4=Lib.bytesWorld w3 5 a1:=⟨_,rfl⟩
 rw [← hw4] at kb HRG hb4 hz4 E4 E4K
 have HZ4:=zK (heap_alloc_new w4 (.cells (AK .u8 [0,0,0,0,0,0,0,0,0,0,0,0,0,0,0,0]) 101))
 have HB4:=zK hb4
 have HENC:Aside0 (EncW w w1.heap.size (w1.heap.size+1+1) w4.heap.size L K s ((w4.alloc (.cells (AK .u8 [0,0,0,0,0,0,0,0,0,0,0,0,0,0,0,0]) 101)).setRow w4.heap.size (AK .u8 s))):=⟨setRow_heap _ _ _ _ _ _ HZ4.out,(setRow_other _ _ _ _ (by omega)).trans ((Below.heap_alloc w4 _ _ (by omega)).trans E4.out),(setRow_other _ _ _ _ (by omega)).trans ((Below.heap_alloc w4 _ _ (by omega)).trans E4K.out),below_setRow (hb4.alloc hb4.size _) hb4.size _⟩
 have hne1:w1.heap.size≠w4.heap.size:=by omega
 have hne2:w1.heap.size+1+1≠w4.heap.size:=by omega
 have hge:w.heap.size≤w4.heap.size:=hb4.size
 clear hKlen hsl hK hs B3 hb4 hk3 hb3 hw4 E3 E3K E4 E4K hz4 hs3 HX HZ HB1 hz
 rw [kb]
 go_wp2_with (first|(refine wpList_load_mid rfl 101 (.tmp 23) rfl w3.heap.size 0 rfl (s.map (Value.int .u8)) _ HRG.out Tryd.underlying101 rfl (by rw [List.length_map,HSL.out]; kernel_rfl) ?_)|(refine wpList_store_row rfl 101 (.tmp 7) (.tmp 24) rfl w4.heap.size (AK .u8 s) rfl rfl 101 (AK .u8 [0,0,0,0,0,0,0,0,0,0,0,0,0,0,0,0]) HZ4.out (by rw [AK_size,HSL.out]; kernel_rfl) (by rw [AK_size,AK_size,HSL.out]; rfl) (AK_one _ _) ?_)|(go_at_call 98; refine (aes_add s K HSL.out w4.heap.size ⟨w1.heap.size+1+1,0,none⟩ 176 176 (by omega) hne2 _ HENC.out.1 (fun i hi=>by rw [Addr.add_mid,Nat.zero_add]; exact AK_cell HENC.out.2.2.1 i (by rw [HKL.out]; omega))).mono ?_; rintro e w6 ⟨rfl,ht6⟩))
 have HE6:=zK (HENC.out.turned ht6 hne1 hne2 hge)
 have HL8:Aside0 (U8s L):=⟨by rw [HLE.out]; exact swapsL_u8⟩
 clear ht6 HENC har HRG HZ4 HB4 kb
 go_loopw [8] (fun v8 wr=>∃ k:Nat,k≤10∧v8=.int .i64 ((k:Int)+1)∧Aside0 (EncW w w1.heap.size (w1.heap.size+1+1) w4.heap.size L K (encS L K s k) wr)) (fun v8 _=>11 - (intOf v8).toNat)
 case atStart=>exact ⟨0,by omega,rfl,HE6⟩
 case round =>
  clear HE6
  obtain ⟨k,hk,rfl,HE⟩:=hrel
  by_cases hlt:k<10
  case neg =>
   obtain rfl:k=10:=by omega
   have hsa:∀ W:World,(Instr.sliceAt 101 (.pointer (some ⟨w4.heap.size,0,none⟩)) none none none).run Tryd.prog W=.ok (.slice (some ⟨w4.heap.size,0,none⟩) 16 16) W:=fun W=>by
    simp [Instr.sliceAt,run_underlying Tryd.underlying101,Instr.sliceBounds,Instr.sureAddr,Instr.sliceBound,Addr.add_mid]
   have hcv:(convert 44 9 (.slice (some ⟨w4.heap.size,0,none⟩) 16 16)).run Tryd.prog wr=.ok (.string (strOfNums (encS L K s 10))) wr:=by
    have HEL:(encS L K s 10).length=16:=by rw [encS_len,HSL.out]
    refine run_convert_bytes_arg wr 44 5 Tryd.underlying44 Tryd.underlying5 w4.heap.size 0 16 16 (encS L K s 10) HEL (fun i hi=>?_) 9 Tryd.underlying9
    rw [Nat.zero_add]
    exact AK_cell HE.out.1 i (by rw [HEL]; exact hi)
   have HRES:Aside0 (strOfNums (encS L K s 10)=encB a0 a1):=⟨by unfold encB; rw [HSE.out,HKE.out,HLE.out]⟩
   rw [HRES.out] at hcv
   go_wp2
   go_ret
   exact ⟨rfl,HE.out.2.2.2⟩
  have hc:decide ((k:Int)+1≤10)=true:=decide_eq_true (by omega)
  have HEL:Aside0 ((encS L K s k).length=16):=⟨by rw [encS_len,HSL.out]⟩
  have HE8:Aside0 (U8s (encS L K s k)):=⟨encS_u8 _ _ _ HS8.out HSL.out HL8.out k⟩
  have ew:IntKind.i64.wrap (16 * ((k:Int)+1))=16 * ((k:Int)+1):=IntWalk.i64_in _ (by omega)
  have hsl:∀ W:World,(Instr.slice 44 (.slice (some ⟨w1.heap.size+1+1,0,none⟩) 176 176) (some (.int .i64 (16 * ((k:Int)+1)))) none none).run Tryd.prog W=.ok (.slice (some ⟨w1.heap.size+1+1,16 * (k+1),none⟩) (176 - 16 * (k+1)) (176 - 16 * (k+1))) W:=fun W=>by
   rw [run_slice_l (P:=Tryd.prog) W 44 (some ⟨w1.heap.size+1+1,0,none⟩) 176 176 (by kernel_rfl) .i64 (16 * ((k:Int)+1)) (by omega) (by omega)]
   have hsz:(sizeOf (Tryd.prog.elem 44)).run Tryd.prog W=.ok 1 W:=by kernel_rfl
   rw [hsz]
   simp only [Result.andThen,sliced]
   rw [if_neg (by omega),show (16 * ((k:Int)+1)).toNat=16 * (k+1) from by omega]
   simp [Addr.add_mid]
  by_cases h9:k<9
  case neg =>
   have hd:decide ((k:Int)+1<10)=false:=decide_eq_false (by omega)
   go_wp2_with (first|(refine wpList_load_row rfl 97 (.tmp 5) rfl w1.heap.size rfl 97 (AK .u8 L) (0,0) _ HE.out.2.1 Tryd.underlying97 rfl (by rw [AK_size,HLL.out]; kernel_rfl) ?_)|(go_at_call 99; refine (aes_shift (encS L K s k) L HEL.out HE8.out HLL.out w4.heap.size _ HE.out.1).mono ?_; rintro e w7 ⟨rfl,ht7⟩; have HE7:=zK (HE.out.turned ht7 hne1 hne2 hge); clear ht7)|(go_at_call 98; refine (aes_add (shS (encS L K s k) L 16) (K.drop (16 * (k+1))) (by rw [shS_len,HEL.out]) w4.heap.size ⟨w1.heap.size+1+1,16 * (k+1),none⟩ (176 - 16 * (k+1)) (176 - 16 * (k+1)) (by omega) hne2 _ HE7.out.1 (fun i hi=>by rw [Addr.add_mid]; refine (AK_cell HE7.out.2.2.1 (16 * (k+1)+i) (by rw [HKL.out]; omega)).trans ?_; simp [List.getD_eq_getElem?_getD])).mono ?_; rintro e w9 ⟨rfl,ht9⟩; have HE9:=zK (HE7.out.turned ht9 hne1 hne2 hge); clear ht9))
   go_roundw
   case rel =>
    refine ⟨k+1,by omega,by go_num,⟨?_⟩⟩
    have e:encS L K s (k+1)=adS (shS (encS L K s k) L 16) (K.drop (16 * (k+1))) 16:=by
     show encR L K (encS L K s k) (k+1)=_
     unfold encR
     rw [if_neg (by omega)]
    rw [e]
    exact HE9.out
   case measure=>simp [intOf]; omega
  have hd:decide ((k:Int)+1<10)=true:=decide_eq_true (by omega)
  go_wp2_with (first|(refine wpList_load_row rfl 97 (.tmp 5) rfl w1.heap.size rfl 97 (AK .u8 L) (0,0) _ HE.out.2.1 Tryd.underlying97 rfl (by rw [AK_size,HLL.out]; kernel_rfl) ?_)|(go_at_call 99; refine (aes_shift (encS L K s k) L HEL.out HE8.out HLL.out w4.heap.size _ HE.out.1).mono ?_; rintro e w7 ⟨rfl,ht7⟩; have HE7:=zK (HE.out.turned ht7 hne1 hne2 hge); clear ht7)|(go_at_call 100; refine (aes_mix (shS (encS L K s k) L 16) (by rw [shS_len,HEL.out]) w4.heap.size _ HE7.out.1).mono ?_; rintro e w8 ⟨rfl,ht8⟩; have HE88:=zK (HE7.out.turned ht8 hne1 hne2 hge); clear ht8)|(go_at_call 98; refine (aes_add (mxS (shS (encS L K s k) L 16) 4) (K.drop (16 * (k+1))) (by rw [mxS_len,shS_len,HEL.out]) w4.heap.size ⟨w1.heap.size+1+1,16 * (k+1),none⟩ (176 - 16 * (k+1)) (176 - 16 * (k+1)) (by omega) hne2 _ HE88.out.1 (fun i hi=>by rw [Addr.add_mid]; refine (AK_cell HE88.out.2.2.1 (16 * (k+1)+i) (by rw [HKL.out]; omega)).trans ?_; simp [List.getD_eq_getElem?_getD])).mono ?_; rintro e w9 ⟨rfl,ht9⟩; have HE9:=zK (HE88.out.turned ht9 hne1 hne2 hge); clear ht9))
  go_roundw
  case rel =>
   refine ⟨k+1,by omega,by go_num,⟨?_⟩⟩
   have e:encS L K s (k+1)=adS (mxS (shS (encS L K s k) L 16) 4) (K.drop (16 * (k+1))) 16:=by
    show encR L K (encS L K s k) (k+1)=_
    unfold encR
    rw [if_pos (by omega)]
   rw [e]
   exact HE9.out
  case measure=>simp [intOf]; omega
end Go.Proofs.YtkgijkfcmbpgpaaDoor.Giv
end
