import Derived.Test.YtkgijkfcmbpgpaaDoorS2b0
import Derived.Test.YtkgijkfcmbpgpaaDoorS2b1
import Derived.Test.YtkgijkfcmbpgpaaDoorS2b2
import Derived.Test.YtkgijkfcmbpgpaaDoorS2b3
section
namespace Go.Proofs.YtkgijkfcmbpgpaaDoor.Giv
open Go.RowKit Go.Proofs.YtkgijkfcmbpgpaaDoorW.PrintWords Go.Proofs.YtkgijkfcmbpgpaaDoorW.PrintLast Go.Proofs.YtkgijkfcmbpgpaaDoorW.PrintMore Go.Proofs.YtkgijkfcmbpgpaaDoor
set_option linter.unusedVariables false
set_option linter.unusedSimpArgs false
def fillL (s:ByteArray):List Int:=(List.range 64).map fun (i:Nat)=>bt s (i:Int)
theorem fillL_len (s:ByteArray):(fillL s).length=64:=by simp [fillL]
theorem bt_data (s:ByteArray) (i:Nat) (h:i<s.size):bt s (i:Int)=((s.data[i]'h).toNat:Int):=by
 unfold bt
 rw [dif_pos (by simpa using h)]
 simp only [Int.toNat_natCast]
 rfl
theorem bt_out (s:ByteArray) (i:Nat) (h:s.size≤i):bt s (i:Int)=0:=by
 unfold bt
 rw [dif_neg (by simp; omega)]
theorem fill_cells (s:ByteArray) (h:s.size≤64):((List.replicate 64 (Value.int .u8 0)).take 0++Lib.byteCells s.data.toList++(List.replicate 64 (Value.int .u8 0)).drop (0+s.size)).toArray=AK .u8 (fillL s):=by
 unfold AK
 congr 1
 have hs:s.data.toList.length=s.size:=by simp
 apply List.ext_getElem
 ·simp [Lib.byteCells,fillL]; omega
 ·intro i h1 h2
  have hi:i<64:=by simpa [fillL] using h2
  have er:(List.map (Value.int IntKind.u8) (fillL s))[i]=Value.int .u8 (bt s (i:Int)):=by simp [fillL]
  refine Eq.trans ?_ er.symm
  by_cases hl:i<s.size
  case pos =>
   rw [List.getElem_append_left (by simp [Lib.byteCells]; omega)]
   simp [Lib.byteCells,bt_data s i hl]
  rw [List.getElem_append_right (by simp [Lib.byteCells]; omega),bt_out s i (by omega)]
  rw [List.getElem_drop,List.getElem_replicate]
theorem wpList_copy_text {P:Program} {w:World} {ops:Array Oper} {rest:List Oper} {o:Oper} {a:Act} {Q:Exit→Act→World→Prop} (hgd:o.guard=none) (d s:Operand) (dT sT:TypeId)
 (ho:o.op=.call { callee:=.builtin .copy,args:=#[d,s],argTypes:=#[dT,sT] }) (elem:TypeId) (hu:P.underlying dT=some (.slice elem)) (hsz:(P.info? elem).map (·.size)=some 1)
 (g off dLen dCap:Nat) (hd:a.eval d=.slice (some ⟨g,off,none⟩) dLen dCap) (x:ByteArray) (hs:a.eval s=.string x)
 (cur:Array Value) (t:TypeId) (hg:w.heap[g]? = some (.cells cur t (0,0))) (hle:x.size≤dLen) (hfit:off+x.size≤cur.size)
 (h:wpList P ops Q rest (a.put o.dst (goInt x.size)) (w.setRow g (cur.toList.take off++Lib.byteCells x.data.toList++cur.toList.drop (off+x.size)).toArray)):wpList P ops Q (o :: rest) a w:=by
 refine wpList_plain hgd fun K hK=>?_
 have hrun:=Lib.run_copy_row_string (P:=P) w dT sT o.type elem g off dLen dCap x cur t hu hsz hg hle hfit
 unfold Oper.wp
 simp [execOp,ho,resolve,invoke,builtin,hd,hs,hrun,Result.andThen]
 exact hK _ _ (by rw [List.append_assoc] at h; exact h)
theorem owns_AK {w:World} {base g n:Nat} {l:List Int} (h:w.heap[g]? = some (.cells (AK .u8 l) 5 (0,0))) (hb:base≤g) (hn:l.length=n) (hm:n≤9223372036854775807) :
 w.ownsRow base 5 1 (.slice (some ⟨g,0,none⟩) n n) n (nums .u8 l):=by
 refine ⟨by simp [nums,hn],.inr ⟨g,n,AK .u8 l,rfl,hb,h,Nat.le_refl _,by unfold maxLen; omega,by simp [AK_size,hn],?_⟩⟩
 simp only [AK,nums]
 exact List.take_of_length_le (by simp [hn])
def zerosL (n:Nat):List Int:=List.replicate n 0
theorem zerosL_len (n:Nat):(zerosL n).length=n:=by simp [zerosL]
theorem zerosL_cells (n:Nat):(AK .u8 (zerosL n)).toList=List.replicate n (Value.int .u8 0):=by simp [AK,zerosL]
theorem make8 (W:World) (n:Nat) (h:n≤281474976710656):(Instr.makeSlice 44 (.int .i64 (n:Int)) (.int .i64 (n:Int))).run Tryd.prog W=.ok (.slice (some ⟨W.heap.size,0,none⟩) n n) (W.alloc (.cells (AK .u8 (zerosL n)) 5)):=by
 obtain ⟨i0,hi,hz0,hz1,hz2⟩:=info_parts info5
 have e:=run_make (P:=Tryd.prog) W 44 5 i0 (.int .u8 0) Tryd.underlying44 hi hz0 .i64 .i64 (n:Int) (n:Int) (by omega) (by omega) (by rw [hz2]; omega) (by omega)
 rw [e]
 have e2:madeCells (Value.int IntKind.u8 0).cells (((n:Int)).toNat * i0.size)=AK .u8 (zerosL n):=by
  rw [hz1]
  apply Array.ext
  ·rw [size_madeCells,AK_size]; simp [zerosL]
  ·intro i h1 h2
   simp [madeCells,AK,Value.cells,Nat.mod_one,zerosL]
 rw [e2]
 simp
def keyB (s:ByteArray):ByteArray:=strOfNums (fillL s)
def hmac_Key.f (a0:ByteArray):Option ByteArray:=if a0.size≤64 then some (keyB a0) else (sha_Sum.f a0).bind fun s=>some (keyB s)
theorem sum_size32 {a0 s:ByteArray} (h:sha_Sum.f a0=some s):s.size=32:=by
 unfold sha_Sum.f at h
 by_cases h0:a0.size≤100000000
 case neg =>
  rw [if_neg h0] at h
  cases h
 rw [if_pos h0] at h
 obtain rfl:=Option.some.inj h
 unfold sumB
 rw [show ∀ l:List Int,(strOfNums l).size=l.length from fun l=>by simp [strOfNums,ByteArray.size],textTo_len _ _ (by rw [stTo_len]; omega)]
def keyW (W:World) (s:ByteArray):World:=(W.alloc (.cells (AK .u8 (zerosL 64)) 5)).setRow W.heap.size (AK .u8 (fillL s))
theorem keyW_string (W:World) (s:ByteArray):(convert 44 9 (.slice (some ⟨W.heap.size,0,none⟩) 64 64)).run Tryd.prog (keyW W s)=.ok (.string (keyB s)) (keyW W s) :=
 own_string (P:=Tryd.prog) Tryd.underlying44 Tryd.underlying5 Tryd.underlying9 (owns_AK (base:=W.heap.size) (setRow_heap _ _ _ _ _ _ (heap_alloc_new W (.cells (AK .u8 (zerosL 64)) 5))) (Nat.le_refl _) (fillL_len s) (by omega))
theorem keyW_below {w W:World} (h:Below w.heap.size w W) (s:ByteArray):Below w.heap.size w (keyW W s):=below_setRow (h.alloc h.size _) h.size _
set_option maxHeartbeats 1000000 in
set_option maxRecDepth 100000 in
theorem hmac_Key.calls (a0:ByteArray) (r:ByteArray) (w:World) {gw:GW w} (h:hmac_Key.f a0=some r) :
 Calls Tryd.prog 37 #[.string a0] w fun e w'=>e=.returned (.string r)∧Below w.heap.size w w':=by
 have HG:=zK gw
 clear gw
 unfold hmac_Key.f at h
 by_cases h0:a0.size≤64
 case pos =>
  have t0:decide ((64:Int)<(a0.size:Int))=false:=decide_eq_false (by omega)
  rw [if_pos h0] at h
  obtain rfl:=Option.some.inj h
  clear h
  have hmk:(Instr.makeSlice 44 (.int .i64 64) (.int .i64 64)).run Tryd.prog w=_:=make8 w 64 (by omega)
  have HB1:=zK (heap_alloc_new w (.cells (AK .u8 (zerosL 64)) 5))
  have HC:=zK (fill_cells a0 h0)
  have hcv:=keyW_string w a0
  go_enter Tryd.func37,Tryd.ntmps37
  go_wp2_with (refine wpList_copy_text rfl (.tmp 10) (.tmp 11) 44 9 rfl 5 Tryd.underlying44 (by kernel_rfl) w.heap.size 0 64 64 rfl a0 rfl (AK .u8 (zerosL 64)) 5 HB1.out (by omega) (by rw [AK_size,zerosL_len]; omega) ?_; rw [zerosL_cells,HC.out]; refine show wpList _ _ _ _ _ (keyW w a0) from ?_)
  go_ret
  exact ⟨rfl,keyW_below (Below.refl _ _) _⟩
 have t0:decide ((64:Int)<(a0.size:Int))=true:=decide_eq_true (by omega)
 rw [if_neg h0] at h
 obtain ⟨s,hs,h⟩:=Option.bind_eq_some_iff.mp h
 obtain rfl:=Option.some.inj h
 clear h
 have hs32:=sum_size32 hs
 go_enter Tryd.func37,Tryd.ntmps37
 go_wp2_with fail
 refine (sha_Sum.calls (gw:=HG.out) _ _ _ hs).mono ?_
 rintro e w1 ⟨rfl,hb1⟩
 have HB0:=zK hb1
 clear hb1
 have hmk:(Instr.makeSlice 44 (.int .i64 64) (.int .i64 64)).run Tryd.prog w1=_:=make8 w1 64 (by omega)
 have HB1:=zK (heap_alloc_new w1 (.cells (AK .u8 (zerosL 64)) 5))
 have HC:=zK (fill_cells s (by omega))
 have hcv:=keyW_string w1 s
 go_wp2_with (refine wpList_copy_text rfl (.tmp 10) (.tmp 11) 44 9 rfl 5 Tryd.underlying44 (by kernel_rfl) w1.heap.size 0 64 64 rfl s rfl (AK .u8 (zerosL 64)) 5 HB1.out (by omega) (by rw [AK_size,zerosL_len]; omega) ?_; rw [zerosL_cells,HC.out]; refine show wpList _ _ _ _ _ (keyW w1 s) from ?_)
 go_ret
 exact ⟨rfl,keyW_below HB0.out _⟩
def xorTo (s:ByteArray) (c:Int) (k:Nat):List Int:=(List.range s.size).map fun (i:Nat)=>if i<k then Go.bits .xor .u8 (bt s (i:Int)) c else 0
def xorB (s:ByteArray) (c:Int):ByteArray:=strOfNums (xorTo s c s.size)
theorem bt_elem (s:ByteArray) (k:Nat) (h:k<s.size):bt s (k:Int)=((s[k]'h).toNat:Int):=by
 rw [bt_data s k h]; rfl
theorem xorTo_len (s:ByteArray) (c:Int) (k:Nat):(xorTo s c k).length=s.size:=by simp [xorTo]
theorem xorTo_zero (s:ByteArray) (c:Int):xorTo s c 0=zerosL s.size:=by
 apply List.ext_getElem<;>simp [xorTo,zerosL]
theorem xorTo_set (s:ByteArray) (c:Int) (k:Nat):(xorTo s c k).set k (Go.bits .xor .u8 (bt s (k:Int)) c)=xorTo s c (k+1):=by
 apply List.ext_getElem
 ·simp [xorTo]
 ·intro i h1 h2
  rw [List.getElem_set]
  simp only [xorTo,List.getElem_map,List.getElem_range]
  by_cases h:k=i
  case pos =>
   subst h; simp
  rw [if_neg h]
  by_cases h3:i<k
  case neg =>
   rw [if_neg h3,if_neg (by omega)]
  rw [if_pos h3,if_pos (by omega)]
theorem turn67 (x:Int) (w:World):Calls Tryd.prog 67 #[.int .u8 x] w fun e w'=>e=.returned (.int .u8 (Go.bits .xor .u8 x 54))∧w'=w:=by
 go_enter Tryd.func67,Tryd.ntmps67
 go_wp2
 go_ret
 exact ⟨rfl,rfl⟩
set_option maxHeartbeats 1000000 in
set_option maxRecDepth 100000 in
theorem changed67 (s:ByteArray) (hs:s.size≤100000000) (w:World):Calls Tryd.prog 66 #[.string s,.func (.func 67) #[] #[]] w fun e w'=>e=.returned (.string (xorB s 54))∧Below w.heap.size w w':=by
 have hmk:=make8 w s.size (by omega)
 have HZ:=zK ((heap_alloc_new w (.cells (AK .u8 (zerosL s.size)) 5)).trans (by rw [← xorTo_zero s 54]))
 go_enter Tryd.func66,Tryd.ntmps66
 go_wp2_with fail
 clear hmk
 go_loopw [12] (fun v12 wr=>∃ k:Nat,k≤s.size∧v12=.int .i64 k∧Aside0 (wr.heap[w.heap.size]? = some (.cells (AK .u8 (xorTo s 54 k)) 5 (0,0)))∧Below w.heap.size w wr) (fun v12 _=>s.size - (intOf v12).toNat)
 case atStart=>exact ⟨0,by omega,rfl,HZ,(Below.refl _ _).alloc (Nat.le_refl _) _⟩
 case round =>
  clear HZ
  obtain ⟨k,hk,rfl,HR,hB⟩:=hrel
  by_cases hlt:k<s.size
  case neg =>
   obtain rfl:k=s.size:=by omega
   have hcv:=own_string (P:=Tryd.prog) Tryd.underlying44 Tryd.underlying5 Tryd.underlying9 (owns_AK (base:=w.heap.size) HR.out (Nat.le_refl _) (xorTo_len _ _ _) (by omega))
   have t0:decide ((s.size:Int)<(s.size:Int))=false:=decide_eq_false (by omega)
   go_wp2
   go_ret
   exact ⟨rfl,hB⟩
  have t0:decide ((k:Int)<(s.size:Int))=true:=decide_eq_true (by omega)
  have hc:=AK_cell HR.out k (by rw [xorTo_len]; omega)
  have hf:=frozen_of_row wr w.heap.size k _ _ HR.out
  go_wp2_with fail
  refine (turn67 _ _).mono ?_
  rintro e w1 ⟨rfl,rfl⟩
  go_wp2
  go_roundw
  case rel =>
   refine ⟨k+1,by omega,by go_num,⟨?_⟩,?_⟩
   ·refine (AK_store HR.out k _).trans ?_
    rw [← xorTo_set,bt_elem s k hlt]
   ·exact hB.setCell (Nat.le_refl _) _
  case measure=>simp [intOf]; omega
theorem turn68 (x:Int) (w:World):Calls Tryd.prog 68 #[.int .u8 x] w fun e w'=>e=.returned (.int .u8 (Go.bits .xor .u8 x 92))∧w'=w:=by
 go_enter Tryd.func68,Tryd.ntmps68
 go_wp2
 go_ret
 exact ⟨rfl,rfl⟩
set_option maxHeartbeats 1000000 in
set_option maxRecDepth 100000 in
theorem changed68 (s:ByteArray) (hs:s.size≤100000000) (w:World):Calls Tryd.prog 66 #[.string s,.func (.func 68) #[] #[]] w fun e w'=>e=.returned (.string (xorB s 92))∧Below w.heap.size w w':=by
 have hmk:=make8 w s.size (by omega)
 have HZ:=zK ((heap_alloc_new w (.cells (AK .u8 (zerosL s.size)) 5)).trans (by rw [← xorTo_zero s 92]))
 go_enter Tryd.func66,Tryd.ntmps66
 go_wp2_with fail
 clear hmk
 go_loopw [12] (fun v12 wr=>∃ k:Nat,k≤s.size∧v12=.int .i64 k∧Aside0 (wr.heap[w.heap.size]? = some (.cells (AK .u8 (xorTo s 92 k)) 5 (0,0)))∧Below w.heap.size w wr) (fun v12 _=>s.size - (intOf v12).toNat)
 case atStart=>exact ⟨0,by omega,rfl,HZ,(Below.refl _ _).alloc (Nat.le_refl _) _⟩
 case round =>
  clear HZ
  obtain ⟨k,hk,rfl,HR,hB⟩:=hrel
  by_cases hlt:k<s.size
  case neg =>
   obtain rfl:k=s.size:=by omega
   have hcv:=own_string (P:=Tryd.prog) Tryd.underlying44 Tryd.underlying5 Tryd.underlying9 (owns_AK (base:=w.heap.size) HR.out (Nat.le_refl _) (xorTo_len _ _ _) (by omega))
   have t0:decide ((s.size:Int)<(s.size:Int))=false:=decide_eq_false (by omega)
   go_wp2
   go_ret
   exact ⟨rfl,hB⟩
  have t0:decide ((k:Int)<(s.size:Int))=true:=decide_eq_true (by omega)
  have hc:=AK_cell HR.out k (by rw [xorTo_len]; omega)
  have hf:=frozen_of_row wr w.heap.size k _ _ HR.out
  go_wp2_with fail
  refine (turn68 _ _).mono ?_
  rintro e w1 ⟨rfl,rfl⟩
  go_wp2
  go_roundw
  case rel =>
   refine ⟨k+1,by omega,by go_num,⟨?_⟩,?_⟩
   ·refine (AK_store HR.out k _).trans ?_
    rw [← xorTo_set,bt_elem s k hlt]
   ·exact hB.setCell (Nat.le_refl _) _
  case measure=>simp [intOf]; omega
theorem fill_size (s:ByteArray):(keyB s).size=64:=by
 unfold keyB
 rw [show ∀ l:List Int,(strOfNums l).size=l.length from fun l=>by simp [strOfNums,ByteArray.size],fillL_len]
theorem key_size {a k:ByteArray} (h:hmac_Key.f a=some k):k.size=64:=by
 unfold hmac_Key.f at h
 by_cases h0:a.size≤64
 case pos =>
  rw [if_pos h0] at h
  obtain rfl:=Option.some.inj h
  exact fill_size a
 rw [if_neg h0] at h
 obtain ⟨s,_,h⟩:=Option.bind_eq_some_iff.mp h
 obtain rfl:=Option.some.inj h
 exact fill_size s
theorem xorB_size (s:ByteArray) (c:Int):(xorB s c).size=s.size:=by
 unfold xorB
 rw [show ∀ l:List Int,(strOfNums l).size=l.length from fun l=>by simp [strOfNums,ByteArray.size],xorTo_len]
theorem sum_bound {a0 s:ByteArray} (h:sha_Sum.f a0=some s):a0.size≤100000000:=by
 unfold sha_Sum.f at h
 by_cases h0:a0.size≤100000000
 case pos =>
  exact h0
 rw [if_neg h0] at h; cases h
def hmac_Mac.f (a0 a1:ByteArray):Option ByteArray:=(hmac_Key.f a0).bind fun k=>(sha_Sum.f (xorB k 54++a1)).bind fun t=>sha_Sum.f (xorB k 92++t)
set_option maxHeartbeats 1000000 in
set_option maxRecDepth 100000 in
theorem hmac_Mac.calls (a0 a1:ByteArray) (r:ByteArray) (w:World) {gw:GW w} (h:hmac_Mac.f a0 a1=some r) :
 Calls Tryd.prog 31 #[.string a0,.string a1] w fun e w'=>e=.returned (.string r)∧Below w.heap.size w w':=by
 have HG:=zK gw
 clear gw
 unfold hmac_Mac.f at h
 obtain ⟨k,hk,h⟩:=Option.bind_eq_some_iff.mp h
 obtain ⟨t,ht,hr⟩:=Option.bind_eq_some_iff.mp h
 clear h
 have k64:=key_size hk
 have t32:=sum_size32 ht
 have b1:=sum_bound ht
 have x1:=xorB_size k 54
 have x2:=xorB_size k 92
 have HK:=zK hk
 have HT:=zK ht
 have HR:=zK hr
 have hcat1:(xorB k 54).size+a1.size≤9223372036854775807:=by rw [ByteArray.size_append] at b1; omega
 have hcat2:(xorB k 92).size+t.size≤9223372036854775807:=by omega
 have HKS:=zK (show k.size≤100000000 by omega)
 clear hk ht hr b1 x1 x2 t32 k64
 go_enter Tryd.func31,Tryd.ntmps31
 go_wp2_with fail
 refine (hmac_Key.calls (gw:=HG.out) _ _ _ HK.out).mono ?_
 rintro e w1 ⟨rfl,hb1⟩
 have HB1:=zK hb1
 clear hb1
 go_wp2_with fail
 refine (changed67 _ HKS.out _).mono ?_
 rintro e w2 ⟨rfl,hb2⟩
 have HB2:=zK (below_step HB1.out hb2)
 clear hb2
 go_wp2_with fail
 refine (sha_Sum.calls (gw:=HG.out.below HB2.out) _ _ _ HT.out).mono ?_
 rintro e w3 ⟨rfl,hb3⟩
 have HB3:=zK (below_step HB2.out hb3)
 clear hb3
 go_wp2_with fail
 refine (changed68 _ HKS.out _).mono ?_
 rintro e w4 ⟨rfl,hb4⟩
 have HB4:=zK (below_step HB3.out hb4)
 clear hb4
 go_wp2_with fail
 refine (sha_Sum.calls (gw:=HG.out.below HB4.out) _ _ _ HR.out).mono ?_
 rintro e w5 ⟨rfl,hb5⟩
 have HB5:=zK (below_step HB4.out hb5)
 clear hb5
 go_wp2_with fail
 go_ret
 exact ⟨rfl,HB5.out⟩
end Go.Proofs.YtkgijkfcmbpgpaaDoor.Giv
end
section
namespace Go.Proofs.YtkgijkfcmbpgpaaDoor.Giv
open Go.RowKit Go.Proofs.YtkgijkfcmbpgpaaDoorW.PrintWords Go.Proofs.YtkgijkfcmbpgpaaDoorW.PrintLast Go.Proofs.YtkgijkfcmbpgpaaDoorW.PrintMore Go.Proofs.YtkgijkfcmbpgpaaDoor
set_option linter.unusedVariables false
set_option linter.unusedSimpArgs false
def HoldB (w:World) (base:Nat) (v:Value) (l:List Int):Prop :=
  ∃ g cap,v=.slice (some ⟨g,0,none⟩) l.length cap∧base≤g∧g<w.heap.size∧l.length≤cap∧cap≤9223372036854775807 ∧
    (∀ j,(h:j<l.length)→w.cell? ⟨g,j,none⟩=some (.int .u8 l[j]))∧∀ j,j<cap→(w.cell? ⟨g,j,none⟩).isSome=true∧w.frozen? ⟨g,j,none⟩=false
theorem HoldB.of_block {w w':World} {base:Nat} {v:Value} {l:List Int} (h:HoldB w base v l) (hs:w.heap.size≤w'.heap.size) (hb:∀ k,k<w.heap.size→w'.heap[k]? = w.heap[k]?):HoldB w' base v l:=by
 obtain ⟨g,cap,e,h1,h2,h3,h4,h5,h6⟩:=h
 exact ⟨g,cap,e,h1,by omega,h3,h4,fun j hj=>(World.cell?_of_block (hb g h2)).trans (h5 j hj),fun j hj=>by rw [World.cell?_of_block (hb g h2),World.frozen?_of_block (hb g h2)]; exact h6 j hj⟩
theorem HoldB.alloc {w:World} {base:Nat} {v:Value} {l:List Int} (h:HoldB w base v l) (o:Obj):HoldB (w.alloc o) base v l :=
 h.of_block (by simp) fun k hk=>Below.heap_alloc w o k hk
theorem HoldB.drewN {w:World} {base:Nat} {v:Value} {l:List Int} (h:HoldB w base v l) (m:Nat):HoldB (w.drewN m) base v l :=
 h.of_block (by simp) fun k hk=>by simp
theorem HoldB.of_owns {w:World} {base base' n:Nat} {v:Value} {l:List Int} (h:w.ownsRow base 5 1 v n (nums .u8 l)) (hb:base'≤base) (hn:0<n):HoldB w base' v l:=by
 have hl:l.length=n:=by have:=h.1; simpa [nums] using this
 rcases h.2 with ⟨_,h0⟩ | ⟨g,cap,cur,e,h1,h2,h3,h4,h5,h6⟩
 ·omega
 ·subst hl
  refine ⟨g,cap,e,by omega,(Array.getElem?_eq_some_iff.1 h2).1,h3,by unfold maxLen at h4; omega,fun j hj=>?_,fun j hj=>⟨?_,frozen_of_row w g j cur 5 h2⟩⟩
  ·rw [cell_of_row w g j cur 5 (0,0) h2]
   have e2:(cur.toList.take (l.length * 1))[j]? = (nums .u8 l)[j]?:=by rw [h6]
   rw [List.getElem?_take,if_pos (by omega)] at e2
   simpa [nums,hj] using e2
  ·rw [cell_of_row w g j cur 5 (0,0) h2]
   simp; omega
theorem HoldB.of_bytes (W:World) (s:ByteArray) (hs:s.size≤9223372036854775807):HoldB (Lib.bytesWorld W 5 s) W.heap.size (.slice (some ⟨W.heap.size,0,none⟩) s.size (grownCap W s.size 0 5)) (bytesOf s):=by
 have hg:=grownCap_ge W s.size 0 5
 have hm:=grownCap_le_maxLen W s.size 0 5 (by unfold maxLen; omega)
 have hz:(Lib.bytesCells W 5 s).size=grownCap W s.size 0 5:=by
  simp [Lib.bytesCells,← Lib.size_eq]; omega
 have hr:=Lib.bytesWorld_at_new W 5 s
 refine ⟨W.heap.size,grownCap W s.size 0 5,by rw [bytesOf_length],Nat.le_refl _,by rw [Lib.bytesWorld_size]; omega,by rw [bytesOf_length]; exact hg,by unfold maxLen at hm; omega,fun j hj=>?_,fun j hj=>⟨?_,?_⟩⟩
 ·rw [bytesOf_length] at hj
  rw [Lib.bytesWorld_cell W 5 s j hj]
  have h':j<s.data.toList.length:=by rw [data_length]; exact hj
  simp [bytesOf,List.getD_eq_getElem?_getD,List.getElem?_eq_getElem h']
 ·simp [World.cell?,hr,hz]; omega
 ·simp [World.frozen?,hr,hz]; omega
theorem HoldB.string {w:World} {base:Nat} {v:Value} {l:List Int} (h:HoldB w base v l):(convert 44 9 v).run Tryd.prog w=.ok (.string (strOfNums l)) w:=by
 obtain ⟨g,cap,rfl,h1,h2,h3,h4,h5,h6⟩:=h
 refine run_convert_bytes_arg w 44 5 Tryd.underlying44 Tryd.underlying5 g 0 l.length cap l rfl (fun i hi=>?_) 9 Tryd.underlying9
 rw [Nat.zero_add,h5 i hi]
 simp [hi]
theorem wpList_append_hold {w:World} {ops:Array Oper} {rest:List Oper} {o:Oper} {a:Act} {Q:Exit→Act→World→Prop} (hgd:o.guard=none) (s x:Operand)
 (ho:o.op=.call { callee:=.builtin .append,args:=#[s,x],argTypes:=#[44,44] }) (base:Nat) (v:Value) (l:List Int) (hs:a.eval s=v) (HO:HoldB w base v l) (ad:Addr) (y:Int)
 (hx:a.eval x=.slice (some ad) 1 1) (hy:w.cell? ad=some (.int .u8 y)) (hl:l.length<1000000000) (w0:World) (hB:Below base w0 w) (hb:base≤w.heap.size)
 (hK:∀ v' w',HoldB w' base v' (l++[y])→Below base w0 w'→base≤w'.heap.size→wpList Tryd.prog ops Q rest (a.put o.dst v') w'):wpList Tryd.prog ops Q (o :: rest) a w:=by
 obtain ⟨i0,hi,hz0,hz1,hz2⟩:=info_parts info5
 obtain ⟨g,cap,rfl,h1,h2,h3,h4,h5,h6⟩:=HO
 refine wpList_append_arg w hgd s x 44 ho 5 i0 (.int .u8 0) 1 1 Tryd.underlying44 hi hz0 hz1 hz2 rfl (by decide) g 0 l.length cap (nums .u8 l) hs (by simp [nums]) (fun j u hj=>?_) ad 1 1 [.int .u8 y] hx rfl
  (fun j u hj=>?_) (by simp [Value.oneCell']) (fun hr j hj=>?_) (by unfold maxLen; omega) (by omega) (fun hr=>?_) (fun hr v' w' hown hg=>?_)
 ·rw [Nat.zero_add]
  have hj':j<l.length:=by
   have:=(List.getElem?_eq_some_iff.1 hj).1
   simpa [nums] using this
  rw [h5 j hj']
  simpa [nums,hj'] using hj
 ·match j with
  | 0 =>
   have e:ad.add 0=ad:=by unfold Addr.add; simp
   rw [e,hy]
   simpa using hj
  | j+1=>simp at hj
 ·simp at hj
  subst hj
  simpa using h6 (l.length) (by omega)
 ·refine hK _ _ ⟨g,cap,by simp,h1,?_,by simpa using hr,h4,fun j hj=>?_,fun j hj=>?_⟩ (below_setCells h1 _ _ _ hB) ?_
  ·simpa [World.setCells] using h2
  ·by_cases hjl:j<l.length
   ·rw [World.cell?_setCells_out _ _ _ _ _ (fun _ _=>Or.inl (by simp; omega)),h5 j hjl]
    simp [hjl]
   ·simp at hj
    obtain rfl:j=l.length:=by omega
    have:=World.cell?_setCells_in g [Value.int .u8 y] (0+l.length * 1) w (fun i hi=>by simp at hi; subst hi; simpa using (h6 l.length (by omega)).1) 0 (by simp)
    simpa using this
  ·rw [World.frozen?_setCells]
   refine ⟨?_,(h6 j hj).2⟩
   by_cases hjl:j=l.length
   case neg =>
    rw [World.cell?_setCells_out _ _ _ _ _ (fun _ _=>by simp; omega)]
    exact (h6 j hj).1
   subst hjl
   have:=World.cell?_setCells_in g [Value.int .u8 y] (0+l.length * 1) w (fun i hi=>by simp at hi; subst hi; simpa using (h6 l.length (by omega)).1) 0 (by simp)
   simp at this
   simp [this]
  ·simpa [World.setCells] using hb
 ·have hnew:=HoldB.of_owns (base':=base) (by simpa [nums] using hown:w'.ownsRow w.heap.size 5 1 v' (l.length+1) (nums .u8 (l++[y]))) hb (by omega)
  exact hK _ _ hnew (hB.grown hg hb (fun _ h=>by cases h)) (Nat.le_trans hb hg.size)
def byteAt (n:Int) (j:Nat):Int:=n / 2 ^ (56 - 8 * j) % 256
def num8 (n:Int) (k:Nat):List Int:=(List.range k).map fun (j:Nat)=>byteAt n j
theorem num8_succ (n:Int) (k:Nat):num8 n (k+1)=num8 n k++[byteAt n k]:=by simp [num8,List.range_succ]
def numsL (l:List Int) (k:Nat):List Int:=(l.take k).flatMap fun n=>num8 n 8
theorem num8_len (n:Int) (k:Nat):(num8 n k).length=k:=by simp [num8]
theorem numsL_len (l:List Int) (k:Nat) (h:k≤l.length):(numsL l k).length=8 * k:=by
 induction k with
 | zero=>simp [numsL]
 | succ k ih =>
  have:=ih (by omega)
  unfold numsL at this ⊢
  rw [List.take_succ_eq_append_getElem (by omega),List.flatMap_append]
  simp [this,num8_len]; omega
theorem numsL_succ (l:List Int) (k:Nat) (h:k<l.length):numsL l (k+1)=numsL l k++num8 (l.getD k 0) 8:=by
 unfold numsL
 rw [List.take_succ_eq_append_getElem h,List.flatMap_append]
 simp [h]
def headL (a0:ByteArray):List Int:=bytesOf a0++[0]
def derive_text.f (a0 a1:ByteArray) (l2:List Int):Option ByteArray :=
  if a0.size≤100000000∧a1.size≤140737488355328∧l2.length≤1000 then some (strOfNums (headL a0++numsL l2 l2.length)++a1) else none
set_option maxHeartbeats 2000000 in
set_option maxRecDepth 100000 in
theorem derive_text.calls (a0:ByteArray) (a1:ByteArray) (A2:Option Addr) (c2:Nat) (l2:List Int) (r:ByteArray) (w:World) (hr2:Kd.C (Kd.int .i64) w A2 l2.length l2) (hc2:l2.length≤c2) (h:derive_text.f a0 a1 l2=some r) :
 Calls Tryd.prog 71 #[.string a0,.string a1,.slice A2 l2.length c2] w fun e w'=>e=.returned (.string r)∧Below w.heap.size w w':=by
 unfold derive_text.f at h
 by_cases hc:a0.size≤100000000∧a1.size≤140737488355328∧l2.length≤1000
 case neg =>
  rw [if_neg hc] at h
  cases h
 rw [if_pos hc] at h
 obtain rfl:=Option.some.inj h
 clear h
 obtain ⟨h0,h1,h2⟩:=hc
 have HC:=zK hr2
 clear hr2
 have kb:=print_bytes (P:=Tryd.prog) 9 44 5 Tryd.underlying9 Tryd.underlying44 Tryd.underlying5 a0 w
 have HO0:=zK (HoldB.of_bytes w a0 (by omega))
 have HB0:=zK (bytes_below (Below.refl w.heap.size w) (Nat.le_refl _) 5 a0)
 have hh0:=bytesOf_length a0
 go_enter Tryd.func71,Tryd.ntmps71
 go_wp2_with (at_builtin; refine wpList_append_hold rfl (.tmp 12) (.tmp 13) rfl w.heap.size _ (bytesOf a0) rfl (HO0.out.alloc _) ⟨(Lib.bytesWorld w 5 a0).heap.size,0,none⟩ 0 rfl (by go_simp) (by omega) w (HB0.out.alloc HB0.out.size _) (by have:=HB0.out.size; simp; omega) ?_; intro v1 w1 ho1 hb1 hs1; have HO1:=zK ho1; have HB1:=zK hb1; clear ho1 hb1)
 clear kb HO0 HB0
 have HR:=zK (Kd.reads_of_C (enc:=Value.int .i64) (d:=(0:Int)) HC.out)
 clear HC
 go_loopw [7,17] (fun v7 v17 wr=>∃ k:Nat,k≤l2.length∧v17=.int .i64 k∧Aside0 (HoldB wr w.heap.size v7 (headL a0++numsL l2 k))∧Aside0 (Below w.heap.size w wr)∧w.heap.size≤wr.heap.size) (fun _ v17 _=>l2.length - (intOf v17).toNat)
 case atStart=>exact ⟨0,by omega,rfl,⟨by simpa [headL,numsL] using HO1.out⟩,HB1,hs1⟩
 case round =>
  clear HO1 HB1 hs1
  obtain ⟨k,hk,rfl,HO,HB,hs⟩:=hrel
  by_cases hlt:k<l2.length
  case neg =>
   obtain rfl:k=l2.length:=by omega
   have t0:decide ((l2.length:Int)<(l2.length:Int))=false:=decide_eq_false (by omega)
   have hcv:=HO.out.string
   have hn:=numsL_len l2 l2.length (by omega)
   have hcat:(strOfNums (headL a0++numsL l2 l2.length)).size+a1.size≤9223372036854775807:=by
    rw [show ∀ l:List Int,(strOfNums l).size=l.length from fun l=>by simp [strOfNums,ByteArray.size],List.length_append,hn]
    simp only [headL,List.length_append,List.length_singleton]
    omega
   go_wp2
   go_ret
   exact ⟨rfl,HB.out⟩
  have t0:decide ((k:Int)<(l2.length:Int))=true:=decide_eq_true (by omega)
  obtain ⟨ad,hA,hcell⟩:=(HR.out.below HB.out).at_ (k:Int) (by omega) (by omega)
  subst hA
  rw [Int.toNat_natCast] at hcell
  have HRk:=zK (show rdOf 0 l2 (k:Int)=l2.getD k 0 by simp [rdOf])
  go_wp2_with fail
  clear hcell t0
  go_loopw [7,10] (fun v7 v10 wq=>∃ j:Nat,j≤8∧v10=.int .i64 (56 - 8 * (j:Int))∧Aside0 (HoldB wq w.heap.size v7 (headL a0++numsL l2 k++num8 (rdOf 0 l2 (k:Int)) j))∧Aside0 (Below w.heap.size w wq)∧w.heap.size≤wq.heap.size) (fun _ v10 _=>(intOf v10+8).toNat)
  case atStart=>exact ⟨0,by omega,rfl,⟨by simpa [num8] using HO.out⟩,HB,hs⟩
  case round =>
   clear HO HB hs
   obtain ⟨j,hj,rfl,HO,HB,hs⟩:=hrel
   by_cases hlt2:j<8
   case neg =>
    obtain rfl:j=8:=by omega
    go_wp2
    go_roundw
    case rel=>exact ⟨k+1,by omega,by go_num,⟨by rw [numsL_succ l2 k hlt,← HRk.out,← List.append_assoc]; exact HO.out⟩,HB,hs⟩
    case measure=>simp [intOf]; omega
   have t0:decide ((0:Int)≤56 - 8 * (j:Int))=true:=decide_eq_true (by omega)
   have hlen:(headL a0++numsL l2 k++num8 (rdOf 0 l2 (k:Int)) j).length<1000000000:=by
    have hn:=numsL_len l2 k hk
    have hn2:=num8_len (rdOf 0 l2 (k:Int)) j
    simp only [headL,List.length_append,List.length_singleton]
    omega
   go_wp2_with (at_builtin; refine wpList_append_hold rfl (.tmp 25) (.tmp 30) rfl w.heap.size _ (headL a0++numsL l2 k++num8 (rdOf 0 l2 (k:Int)) j) rfl (HO.out.alloc _) ⟨wr.heap.size,0,none⟩ (byteAt (rdOf 0 l2 (k:Int)) j) rfl (by go_simp; rfl) hlen w (HB.out.alloc HB.out.size _) (by simp; omega) ?_; intro v1 w1 ho1 hb1 hs1; have HO1:=zK ho1; have HB1:=zK hb1; clear ho1 hb1)
   go_roundw
   case rel=>exact ⟨j+1,by omega,by go_num,⟨by rw [num8_succ,← List.append_assoc]; exact HO1.out⟩,HB1,hs1⟩
   case measure=>simp [intOf]; omega
end Go.Proofs.YtkgijkfcmbpgpaaDoor.Giv
end
section
namespace Go.Proofs.YtkgijkfcmbpgpaaDoor.Giv
open Go.RowKit Go.Shelf Go.Proofs
set_option linter.unusedVariables false
set_option linter.unusedSimpArgs false
def bRen:Ren where
  f n:=if n=166 then 87 else if n=170 then 88 else if n=169 then 89 else if n=240 then 94 else if n=276 then 101 else n
  t n:=if n=37 then 44 else if n=70 then 83 else if n=72 then 85 else if n=75 then 89 else if n=80 then 29 else if n=127 then 95 else if n=164 then 104 else n
  g n:=n
theorem bLays170:Lays.n170 Tryd.prog bRen:=by
 constructor<;>first|(intro w; kernel_rfl)|kernel_rfl
theorem bLays169:Lays.n169 Tryd.prog bRen:=by
 constructor<;>first|(intro w; kernel_rfl)|kernel_rfl
theorem bLays166:Lays.n166 Tryd.prog bRen:=by
 constructor<;>first|(intro w; kernel_rfl)|kernel_rfl
theorem bX72:Builder.X72 Tryd.prog bRen:=by
 constructor<;>kernel_rfl
theorem bExtra:Builder.Extra Tryd.prog bRen:=by
 refine { toX72:=bX72,t5:=?_,a5:=?_,z5:=?_,v5:=?_,infoByte:=?_,cellsByte:=?_,sizeByte:=?_,neB5:=by decide }<;>first|(intro w; kernel_rfl)|kernel_rfl
theorem b_len (B b:Nat) (bs:List Value) (w:World) (h:Lib.IsBuilderF 85 5 B b bs w) :
 Calls Tryd.prog 88 #[.pointer (some ⟨b,0,none⟩)] w fun e w'=>e=.returned (.int .i64 bs.length)∧w'=w :=
 Any.Builder_Len_f bLays170 B b bs w h
def KeptB (b:Nat) (w w':World):Prop:=KeepsOthers w w'∧∀ (k:Nat) (c:Array Value) (T:TypeId) (fz:Nat×Nat),k≠b→T≠5→w.heap[k]? = some (.cells c T fz)→w'.heap[k]? = some (.cells c T fz)
theorem b_check (B b:Nat) (bs:List Value) (w:World) (h:Lib.IsBuilderF 85 5 B b bs w) :
 Calls Tryd.prog 94 #[.pointer (some ⟨b,0,none⟩)] w fun e w'=>e=.returned (.tuple #[])∧Lib.BuilderAtF 85 5 B b (.pointer (some ⟨b,0,none⟩)) bs w'∧Below B w w'∧KeptB b w w'∧w.heap.size≤w'.heap.size:=by
 have L:Lays.n240 Tryd.prog bRen:={ bLays166 with }
 rcases h with h|h
 ·refine (Any.Builder_copyCheck_fresh L bX72 b w h.cell0 h.shape h.frozen0).mono ?_
  rintro e w' ⟨rfl,rfl⟩
  exact ⟨rfl,h.used _,(Below.refl B w).setCell (p:=⟨b,0,none⟩) h.1 _,⟨KeepsOthers.setCell _ _ _,fun k c T fz hk hT hc=>(heap_setCell_other w ⟨b,0,none⟩ k _ (fun e=>hk e)).trans hc⟩,by simp⟩
 ·refine (Any.Builder_copyCheck_used L bX72 b w h.cell0).mono ?_
  rintro e w' ⟨rfl,rfl⟩
  exact ⟨rfl,h,Below.refl B _,⟨KeepsOthers.refl _,fun k c T fz _ _ hc=>hc⟩,Nat.le_refl _⟩
set_option maxHeartbeats 2000000 in
set_option maxRecDepth 100000 in
theorem b_write2 (B b:Nat) (bs:List Value) (s:ByteArray) (w:World) (h:Lib.IsBuilderF 85 5 B b bs w) (hl:bs.length+s.size≤140737488351232) (hB:B≤w.heap.size) :
 Calls Tryd.prog 87 #[.pointer (some ⟨b,0,none⟩),.string s] w fun e w'=>e=.returned (.tuple #[.int .i64 s.size,.nilIface])∧Lib.BuilderAtF 85 5 B b (.pointer (some ⟨b,0,none⟩)) (bs++Lib.strCells s) w'∧Below B w w'∧KeptB b w w'∧w.heap.size≤w'.heap.size:=by
 obtain ⟨i0,hi,hz0,hz1,hz2⟩:=info_parts bExtra.infoByte
 go_enter Tryd.func87,Tryd.ntmps87
 go_wp2_with (go_at_call 94; refine (b_check B b bs _ h).mono ?_)
 rintro e w1 ⟨rfl,h1,hb1,hk1,hs1⟩
 obtain ⟨hBb,v,hbk,hown,hne⟩:=h1
 have c1:w1.cell? ⟨b,1,none⟩=some v:=by rw [Lib.cell_of_heap hbk]; rfl
 go_wp2_with (at_builtin; refine Lib.wpList_append_own_stringF _ rfl _ _ 44 9 rfl B 5 i0 Tryd.underlying44 Tryd.underlying9 hi hz0 hz1 hz2 _ _ _ rfl hown s rfl ?c3 ?c4 ?c5 ?_)
 case c3=>unfold maxLen; omega
 case c4=>omega
 case c5=>omega
 intro v' w2 hown' hgrow _
 have hlt:b<w1.heap.size:=(Array.getElem?_eq_some_iff.1 hbk).1
 have hb2:w2.heap[b]? = some (.cells #[.pointer (some ⟨b,0,none⟩),v] 85 (0,0)):=(hgrow.block b hlt (fun e=>hne e.symm)).trans hbk
 have d1:w2.cell? ⟨b,1,none⟩=some v:=by rw [Lib.cell_of_heap hb2]; rfl
 have f1:w2.frozen? ⟨b,1,none⟩=false:=Lib.frozen_of_heap hb2 1
 have hrow:∀ (j:Nat) (o:Obj),v.ownBlock=some j→w1.heap[j]? = some o→∃ c fz,o=.cells c 5 fz:=by
  intro j o hj ho
  rcases hown.2 with ⟨hv,_⟩ | ⟨g,cap,cur,fz,hv,_,hg,_⟩
  ·rw [hv] at hj; cases hj
  ·rw [hv] at hj
   obtain rfl:g=j:=Option.some.inj hj
   rw [hg] at ho
   exact ⟨_,_,(Option.some.inj ho).symm⟩
 obtain ⟨ao,n',cap,rfl⟩:∃ ao n' cap,v'=.slice ao n' cap:=by
  rcases hown'.2 with ⟨hv,_⟩ | ⟨g,cap,cur,fz,hv,_⟩
  ·exact ⟨_,_,_,hv⟩
  ·exact ⟨_,_,_,hv⟩
 have hz:=hgrow.size
 go_wp2
 go_ret2
 refine ⟨rfl,Lib.BuilderAtF.put (T:=85) (e:=5) hBb hb2 (bs':=bs++Lib.strCells s) (by simpa [Lib.strCells_length] using hown') bExtra.neB5,(hb1.grown hgrow (by omega) (fun k hk=>(hown.lt k hk).1)).setCell (p:=⟨b,1,none⟩) hBb _,⟨?_,?_⟩,?_⟩
 ·refine (hk1.1.trans (KeepsOthers.of_grownBy hgrow fun j o hj ho=>?_)).trans (KeepsOthers.setCell _ _ _)
  obtain ⟨c,fz,rfl⟩:=hrow j o hj ho
  rfl
 ·intro k c T fz hk hT hc
  have h1:=hk1.2 k c T fz hk hT hc
  refine (heap_setCell_other w2 ⟨b,1,none⟩ k _ (fun e=>hk e)).trans ((hgrow.block k (Array.getElem?_eq_some_iff.1 h1).1 (fun e=>?_)).trans h1)
  obtain ⟨c',fz',e'⟩:=hrow k _ e.symm h1
  cases e'
  exact hT rfl
 ·simp; omega
theorem b_string2 (B b:Nat) (l:List UInt8) (w:World) (h:Lib.IsBuilderF 85 5 B b (Lib.byteCells l) w) (h0:l≠[]) :
 Calls Tryd.prog 89 #[.pointer (some ⟨b,0,none⟩)] w fun e w'=>e=.returned (.string ⟨l.toArray⟩)∧Below B w w'∧Lib.OthersKept 5 (some b) w w' :=
 (Any.Builder_String_k bLays169 bExtra B b l w h h0).mono fun e w' ⟨h1,_,h2,h3⟩=>⟨h1,h2,h3⟩
end Go.Proofs.YtkgijkfcmbpgpaaDoor.Giv
end
section
namespace Go.Proofs.YtkgijkfcmbpgpaaDoor.Giv
open Go.RowKit Go.Shelf
set_option linter.unusedVariables false
set_option linter.unusedSimpArgs false
def Endless (F:Fence) (n:Nat) (P:Program) (g:Nat) (lb:Array Value) (Kp:World→World→Prop) (Xp:List ByteArray→ByteArray→Prop) (N:Nat) (Sp:List ByteArray→Prop) (w:World):Prop :=
  ∀ (l:Nat) (J Jx:List ByteArray→World→Prop) (W:World),Below w.heap.size w W →
    (∀ s A B,J s A→A.grownBy B none→J s B)→(∀ s A B,Jx s A→A.grownBy B none→Jx s B) →
    (∀ pre W1,J pre W1→pre.length<N) →
    (∀ pre x W1,Xp pre x→J pre W1→YieldAt F (n - 1) P l #[.string x] W1 fun e W' =>
      (e=.returned (.bool true)∧J (pre++[x]) W'∧Kp W1 W')∨(e=.returned (.bool false)∧Jx (pre++[x]) W')) →
    J [] W →
    CallsIn F n P g (#[.func (.yield l) #[] #[]]++lb) W fun e W'=>(∃ v,e=.returned v)∧∃ pre,Sp pre∧Jx pre W'
def postB (Kp:World→World→Prop) (I Ix:List ByteArray→World→Prop) (id:Nat) (xs:List ByteArray) (W:World):Exit→Act→World→Prop
  | .normal,_,W'=>KeepsOthers W W'∧Kp W W'∧I xs W'
  | .exit k,_,W'=>k=id∧KeepsOthers W W'∧Ix xs W'
  | _,_,_=>False
variable {F:Fence} {n:Nat} {P:Program}
theorem wpIn_range_endless {g:Operand} {p:Tmp} {assign body:Code} {Q:Exit→Act→World→Prop} {a:Act} {w:World}
 (hro:F.round=none) (h1:1≤n) {gf:Nat} {lb:Array Value} (hg:a.eval g=.func (.func gf) #[] lb) (hFg:F.fn gf) (eg:∀ args w,(callFunc gf args).run P w=.ok (.enter gf args) w)
 {N id:Nat} {Kp:World→World→Prop} {Xp:List ByteArray→ByteArray→Prop} {Sp:List ByteArray→Prop} (hKt:∀ A B C,Kp A B→Kp B C→Kp A C) (hKb:∀ (W:World) (l:Nat) (o:Obj) (r:Loop),W.heap[l]? = some (.loop r)→Kp W (W.putObj l o)) (hseq:Endless F (n - 1) P gf lb Kp Xp N Sp w)
 (I Ix:List ByteArray→World→Prop) (hI:OwnFrom w.heap.size I) (hIx:OwnFrom w.heap.size Ix) (hN:∀ pre W,I pre W→pre.length<N) (h0:I [] w) (a₁ : ByteArray→Act)
 (hassign:∀ (l:Nat) (x:ByteArray) (W:World) (K:Act→World→Prop),K (a₁ x) W →
  assign.wpIn (F.inRound l) (n - 1 - 1) P (Exit.then K (fun _ _ _=>False)) { tmps:=a.tmps.setIfInBounds p (.string x),defers:=[] } W)
 (hbody:∀ (l:Nat) (pre:List ByteArray) (x:ByteArray) (W:World),Xp pre x→I pre W→body.wpIn (F.inRound l) (n - 1 - 1) P (postB Kp I Ix id (pre++[x]) W) (a₁ x) W)
 (hstop:∀ (D:Nat) (pre:List ByteArray) (W:World),w.heap.size≤D→Sp pre→Ix pre W→W.heap[D]? = some (.deferred (some []))→(Code.exit id).wpIn F n P Q { a with defers:={ target:=.collected D,args:=#[] } :: a.defers } W) :
 (Code.rangeFunc g #[p] assign body).wpIn F n P Q a w:=by
 refine wpIn_rangeFunc fun fn hfn=>?_
 rw [hro]
 let rec0:LoopState→Option Code→Loop:=fun st pe=>{ state:=st,pending:=pe,fn,tmps:=a.tmps,params:=#[p],assign,body,defers:=w.heap.size }
 obtain ⟨W1,hW1⟩:∃ W1,(w.alloc (.deferred (some []))).alloc (.loop (rec0 .ready none))=W1:=⟨_,rfl⟩
 have hL1:W1.heap[w.heap.size+1]? = some (.loop (rec0 .ready none)):=by
  rw [← hW1]; exact heap_alloc2_new w (.deferred (some [])) (.loop (rec0 .ready none))
 have hK1:W1.heap[w.heap.size]? = some (.deferred (some [])):=by
  rw [← hW1]; exact heap_alloc2_old w (.deferred (some [])) (.loop (rec0 .ready none))
 have hI1:I [] W1:=by rw [← hW1]; exact hI.alloc _ (hI.alloc _ h0)
 have hb1:Below w.heap.size w W1:=by rw [← hW1]; exact ((Below.refl _ w).alloc (Nat.le_refl _) _).alloc (by simp) _
 refine ⟨w.heap.size+1,[{ target:=.collected w.heap.size,args:=#[] }],W1,{ target:=.fn (.func gf) lb,args:=#[.func (.yield (w.heap.size+1)) #[] #[]] },W1,gf,
  #[.func (.yield (w.heap.size+1)) #[] #[]]++lb,W1,by rw [← hW1]; exact run_enterLoop_outer _ _ _ _ _,by simp only [resolve,hg]; simp [go_sem],fun f' hf'=>by simp [Target.leads] at hf'; subst hf'; exact hFg,by simp [invoke,go_sem,eg],fun _=>h1,?_⟩
 have keep:∀ {A B:World} {k:Nat} {o:Obj},A.grownBy B none→A.heap[k]? = some o→B.heap[k]? = some o:=fun hg' h=>(hg'.block _ (Array.getElem?_eq_some_iff.1 h).1 (by simp)).trans h
 refine (hseq (w.heap.size+1)
  (fun pre W=>I pre W∧W.heap[w.heap.size+1]? = some (.loop (rec0 .ready none))∧W.heap[w.heap.size]? = some (.deferred (some [])))
  (fun pre W=>Ix pre W∧W.heap[w.heap.size+1]? = some (.loop (rec0 .done (some (.exit id))))∧W.heap[w.heap.size]? = some (.deferred (some [])))
  W1 hb1 (fun s A B h hg'=>⟨hI s A B none h.1 hg' (fun r e=>by cases e),keep hg' h.2.1,keep hg' h.2.2⟩)
  (fun s A B h hg'=>⟨hIx s A B none h.1 hg' (fun r e=>by cases e),keep hg' h.2.1,keep hg' h.2.2⟩) (fun pre W h=>hN pre W h.1) ?_ ⟨hI1,hL1,hK1⟩).mono ?_
 ·rintro pre x W hxp ⟨hi,hl,hk⟩
  have hlt:w.heap.size+1<W.heap.size:=(Array.getElem?_eq_some_iff.1 hl).1
  have hy:(Instr.yield (w.heap.size+1) #[.string x]).run P W=.ok (.round (w.heap.size+1) fn (a.tmps.setIfInBounds p (.string x)) assign body) W:=(run_yield (P:=P) (args:=#[.string x]) hl rfl).trans (by simp [rec0])
  refine ⟨fn,a.tmps.setIfInBounds p (.string x),assign,body,hy,roundIn_of_wpIn hfn ?_⟩
  refine hassign _ x W _ ?_
  refine ⟨_,run_beginRound hl rfl,?_⟩
  have hl2:(W.putObj (w.heap.size+1) (.loop (rec0 .busy none))).heap[w.heap.size+1]? = some (.loop (rec0 .busy none)):=World.putObj_heap_same hlt
  have hk2:(W.putObj (w.heap.size+1) (.loop (rec0 .busy none))).heap[w.heap.size]? = some (.deferred (some [])):=(World.putObj_heap_other (by omega)).trans hk
  have hb2:Kp W (W.putObj (w.heap.size+1) (.loop (rec0 .busy none))):=hKb W _ _ _ hl
  refine wpIn_mono (hbody _ pre x _ hxp (hI.putObj _ hi (by omega) hl rfl)) ?_
  rintro e a3 W3 hp
  cases e with
  | normal =>
   obtain ⟨hk3,hb3,hi3⟩:=hp
   have hl3:=hk3.same _ _ hl2 rfl
   have hr:=run_endRound (P:=P) none hl3
   exact ⟨_,_,hr,.inl ⟨rfl,⟨hI.putObj _ hi3 (by omega) hl3 rfl,World.putObj_heap_same (Array.getElem?_eq_some_iff.1 hl3).1,(World.putObj_heap_other (by omega)).trans (hk3.same _ _ hk2 rfl)⟩,hKt _ _ _ (hKt _ _ _ hb2 hb3) (hKb W3 _ _ _ hl3)⟩⟩
  | exit k =>
   obtain ⟨rfl,hk3,hi3⟩:=hp
   have hl3:=hk3.same _ _ hl2 rfl
   have hr:=run_endRound (P:=P) (some (.exit k)) hl3
   exact ⟨_,_,hr,.inr ⟨rfl,hIx.putObj _ hi3 (by omega) hl3 rfl,World.putObj_heap_same (Array.getElem?_eq_some_iff.1 hl3).1,(World.putObj_heap_other (by omega)).trans (hk3.same _ _ hk2 rfl)⟩⟩
  | ret=>exact hp.elim
  | goto t=>exact hp.elim
  | panic ch=>exact hp.elim
  | outgrown=>exact hp.elim
 ·rintro e W2 ⟨⟨v,rfl⟩,pre,hSp,hi,hl,hk⟩
  exact ⟨some (.exit id),_,run_endLoop (P:=P) hl (by simp [rec0]),hstop _ pre _ (Nat.le_refl _) hSp (hIx.putObj _ hi (by omega) hl rfl) ((World.putObj_heap_other (by omega)).trans hk)⟩
end Go.Proofs.YtkgijkfcmbpgpaaDoor.Giv
end
section
namespace Go.Proofs.YtkgijkfcmbpgpaaDoor.Giv
open Go.RowKit Go.Proofs.YtkgijkfcmbpgpaaDoorW.PrintWords Go.Proofs.YtkgijkfcmbpgpaaDoorW.PrintLast Go.Proofs.YtkgijkfcmbpgpaaDoorW.PrintMore Go.Proofs.YtkgijkfcmbpgpaaDoor.PSub
set_option linter.unusedVariables false
set_option linter.unusedSimpArgs false
def U8 (x:Int):Prop:=0≤x∧x<256
theorem u8_wrap (x:Int):U8 (IntKind.u8.wrap x):=by
 rw [show IntKind.u8.wrap x=x % 256 from rfl]; unfold U8; omega
theorem bits_u8 (o:BinOp) (x y:Int) (h:o=.and∨o=.or∨o=.xor):U8 (Go.bits o .u8 x y):=by
 unfold Go.bits
 rcases h with rfl|rfl|rfl<;>simp<;>exact u8_wrap _
def tw (x:Int):Int:=if (Go.bits .and .u8 x 128)=0 then ((x * 2) % 256) else (Go.bits .xor .u8 ((x * 2) % 256) 27)
theorem tw_some (x:Int):aes_twice.f x=some (tw x):=by
 unfold aes_twice.f tw
 split<;>rfl
theorem times_some:∀ (n:Nat) (x b acc:Int),0≤b→b<2 ^ n→∃ r,aes_Times.l0 (n+1) x b acc=some r
 | 0,x,b,acc,h0,h1=>by
  simp only [aes_Times.l0]
  rw [if_pos (by simp at h1; omega)]
  exact ⟨_,rfl⟩
 | n+1,x,b,acc,h0,h1=>by
  rw [aes_Times.l0]
  by_cases hb:b=0
  case pos =>
   rw [if_pos hb]; exact ⟨_,rfl⟩
  rw [if_neg hb,tw_some]
  have h2:b / 2<2 ^ n:=by rw [Int.pow_succ] at h1; omega
  split
  ·exact times_some n _ _ _ (by omega) h2
  ·exact times_some n _ _ _ (by omega) h2
def mulZ (x b:Int):Int:=(aes_Times.f 9 x b).getD 0
theorem mulZ_some (x b:Int) (h0:0≤b) (h1:b<256):aes_Times.f 9 x b=some (mulZ x b):=by
 obtain ⟨r,hr⟩:=times_some 8 x b 0 h0 (by simpa using h1)
 have e:aes_Times.f 9 x b=some r:=hr
 unfold mulZ; rw [e]; rfl
def lf (x k:Int):Int:=Go.bits .or .u8 (shl .u8 x k) (shr .u8 x (8 - k))
theorem lf_some (x k:Int) (h0:0≤k) (h1:k≤8):aes_left.f x k=some (lf x k):=by
 unfold aes_left.f lf
 have e:wrap64 (8 - k)=8 - k:=by unfold wrap64; omega
 rw [e,if_pos h0,if_pos (by omega)]
def nextA (a:Int):Int:=Go.bits .xor .u8 a (tw a)
def swA:Nat→Int
  | 0=>1
  | k+1=>nextA (swA k)
def swB:Nat→Int
  | 0=>1
  | k+1=>mulZ (swB k) 246
def boxZ (b:Int):Int:=Go.bits .xor .u8 (Go.bits .xor .u8 (Go.bits .xor .u8 (Go.bits .xor .u8 (Go.bits .xor .u8 b (lf b 1)) (lf b 2)) (lf b 3)) (lf b 4)) 99
def swT:Nat→List Int
  | 0=>List.replicate 256 0
  | k+1=>(swT k).set (swA (k+1)).toNat (boxZ (swB (k+1)))
def swapsL:List Int:=(swT 255).set 0 99
theorem swT_len:∀ k,(swT k).length=256
 | 0=>by unfold swT; rw [List.length_replicate]
 | k+1=>by unfold swT; rw [List.length_set,swT_len k]
theorem swapsL_len:swapsL.length=256:=by unfold swapsL; rw [List.length_set,swT_len]
theorem nextA_u8 (a:Int):U8 (nextA a):=bits_u8 _ _ _ (.inr (.inr rfl))
def chkA:Nat→Int→Bool
  | 0,a=>a == 1
  | n+1,a=>(a != 1) && chkA n (nextA a)
theorem chkA_run:∀ (n k:Nat),chkA n (swA k)=true→(∀ j,j<n→swA (k+j)≠1)∧swA (k+n)=1
 | 0,k,h=>⟨fun j hj=>by omega,by simpa [chkA] using h⟩
 | n+1,k,h=>by
  simp only [chkA,Bool.and_eq_true,bne_iff_ne,ne_eq] at h
  obtain ⟨h1,h2⟩:=chkA_run n (k+1) h.2
  refine ⟨fun j hj=>?_,by rw [show k+(n+1)=k+1+n from by omega]; exact h2⟩
  by_cases h0:j=0
  case pos =>
   subst h0; exact h.1
  have:=h1 (j - 1) (by omega)
  rwa [show k+1+(j - 1)=k+j from by omega] at this
theorem swA_run:(∀ j,j<254→swA (1+j)≠1)∧swA 255=1:=chkA_run 254 1 (by kernel_rfl)
theorem least_of (p:Nat→Prop):∀ n,p n→∃ m,p m∧∀ j,p j→m≤j:=by
 intro n
 induction n using Nat.strongRecOn with
 | _ n ih =>
  intro h
  by_cases hx:∃ j,j<n∧p j
  case pos =>
   obtain ⟨j,hj,hp⟩:=hx
   exact ih j hj hp
  exact ⟨n,h,fun j hj=>Nat.le_of_not_lt fun hlt=>hx ⟨j,hlt,hj⟩⟩
open Classical in
noncomputable def lv (p:Nat→Prop):Nat:=if h:∃ m,p m∧∀ j,p j→m≤j then Classical.choose h else 0
open Classical in
theorem lv_spec {p:Nat→Prop} (h:∃ n,p n):p (lv p)∧∀ j,p j→lv p≤j:=by
 have h2:∃ m,p m∧∀ j,p j→m≤j:=by obtain ⟨n,hn⟩:=h; exact least_of p n hn
 unfold lv
 rw [dif_pos h2]
 exact Classical.choose_spec h2
theorem wp_scope_down {P:Program} {a:Act} {w:World} {Q:Exit→Act→World→Prop} {c rest:Code} (l:Nat) (J:Nat→Act→World→Prop) (hf:findLabel c l=some rest)
 (first:c.wp P (Exit.jump l (fun a w=>∃ n,J n a w) Q) a w)
 (pass:∀ n a w,J n a w→rest.wp P (Exit.jump l (fun a' w'=>∃ m,m<n∧J m a' w') Q) a w):(Code.scope c).wp P Q a w :=
 wp_scope_jumps l (fun a w=>∃ n,J n a w) (fun a w=>lv (fun n=>J n a w)) hf first fun a w hJ =>
  Code.wp_mono (fun e a' w' h=>by
   cases e with
   | goto l' =>
    obtain ⟨e1,m,hm,hj⟩:=h
    exact ⟨e1,⟨m,hj⟩,Nat.lt_of_le_of_lt ((lv_spec (p:=fun n=>J n a' w') ⟨m,hj⟩).2 m hj) hm⟩
   | _=>exact h) (pass _ a w (lv_spec hJ).1)
def J0 (w:World) (n:Nat) (a':Act) (w':World):Prop :=
  ∃ (k:Nat) (u4 u5 u6 u7 u8 u9 u10 u11 u12 u13 u14 u15 u16 u17 u18 u19 u20 u21 u22 u23 u24 u25 u26 u27:Value),n=255 - k∧1≤k∧k<255∧a' = { tmps:=#[.pointer (some ⟨w.heap.size,0,none⟩),.pointer (some ⟨w.heap.size+1,0,none⟩),.int .u8 (swA k),.int .u8 (swB k),u4,u5,u6,u7,u8,u9,u10,u11,u12,u13,u14,u15,u16,u17,u18,u19,u20,u21,u22,u23,u24,u25,u26,u27,undef,undef],defers:=[] } ∧
    w'.heap[w.heap.size+1]? = some (.cells (AK .u8 (swT k)) 97 (0,0))∧w'.heap[w.heap.size]? = some (.cells (AK .u8 (swT 0)) 97 (0,0))∧Below w.heap.size w w'
theorem zero256:Tryd.zeroCells97=AK .u8 (swT 0):=by kernel_rfl
set_option maxHeartbeats 4000000 in
set_option maxRecDepth 100000 in
theorem aes_swaps (w:World):Calls Tryd.prog 96 #[] w fun e w'=>e=.returned (.agg (AK .u8 swapsL))∧Below w.heap.size w w':=by
 go_enter Tryd.func96,Tryd.ntmps96
 go_wp2_with fail
 rw [zero256]
 refine wp_scope_down 0 (J0 w) rfl ?_ ?_
 ·go_wp2_with fail
  go_step3
  rw [zero256]
  have hb1:=heap_alloc2_new w (.cells (AK .u8 (swT 0)) 97) (.cells (AK .u8 (swT 0)) 97)
  have hb0:=heap_alloc2_old w (.cells (AK .u8 (swT 0)) 97) (.cells (AK .u8 (swT 0)) 97)
  have hB:Below w.heap.size w ((w.alloc (.cells (AK .u8 (swT 0)) 97)).alloc (.cells (AK .u8 (swT 0)) 97)):=((Below.refl _ _).alloc (Nat.le_refl _) _).alloc (by simp) _
  generalize (w.alloc (.cells (AK .u8 (swT 0)) 97)).alloc (.cells (AK .u8 (swT 0)) 97)=wr at *
  have hA:U8 (Go.bits .xor .u8 1 (tw 1)):=nextA_u8 1
  have hl:=swT_len 0
  have hc:=AK_cell hb1 (Go.bits .xor .u8 1 (tw 1)).toNat (by rw [hl]; unfold U8 at hA; omega)
  have hf:=frozen_of_row wr (w.heap.size+1) (Go.bits .xor .u8 1 (tw 1)).toNat _ _ hb1
  have t1:=hA.1
  have t2:=hA.2
  have HB1:=zK hb1
  have HB0:=zK hb0
  clear hb1 hb0 hA hl
  go_wp2_with (first|(go_at_call 102; refine (aes_twice.calls _ _ _ (tw_some _)).mono ?_; rintro e w' ⟨rfl,m,rfl⟩)|(go_at_call 103; refine (aes_Times.calls 9 _ _ _ _ (mulZ_some _ _ (by omega) (by omega))).mono ?_; rintro e w' ⟨rfl,m,rfl⟩)|(go_at_call 104; refine (aes_left.calls _ _ _ _ (lf_some _ _ (by omega) (by omega))).mono ?_; rintro e w' ⟨rfl,m,rfl⟩))
  ·go_step3
   refine ⟨rfl,254,1,_,_,_,_,_,_,_,_,_,_,_,_,_,_,_,_,_,_,_,_,_,_,_,_,rfl,by omega,by omega,rfl,?_,?_,?_⟩
   ·exact AK_store (w:=wr.drewN _) HB1.out _ _
   ·rw [heap_setCell_other _ _ _ _ (by simp)]; exact HB0.out
   ·exact (zN hB _).setCell (by simp) _
 ·rintro n a' wr ⟨k,u4,u5,u6,u7,u8,u9,u10,u11,u12,u13,u14,u15,u16,u17,u18,u19,u20,u21,u22,u23,u24,u25,u26,u27,rfl,hk1,hk2,rfl,hb1,hb0,hB⟩
  have hA:U8 (Go.bits .xor .u8 (swA k) (tw (swA k))):=nextA_u8 (swA k)
  have hl:=swT_len k
  have hc:=AK_cell hb1 (Go.bits .xor .u8 (swA k) (tw (swA k))).toNat (by rw [hl]; unfold U8 at hA; omega)
  have hf:=frozen_of_row wr (w.heap.size+1) (Go.bits .xor .u8 (swA k) (tw (swA k))).toNat _ _ hb1
  have t1:=hA.1
  have t2:=hA.2
  have HB1:=zK hb1
  have HB0:=zK hb0
  clear hb1 hb0 hA hl
  by_cases h254:k=254
  case neg =>
   have hne:swA (k+1)≠1:=by
    have:=swA_run.1 k (by omega)
    rwa [Nat.add_comm] at this
   have t3:(Go.bits .xor .u8 (swA k) (tw (swA k)) != 1)=true:=by rw [bne_iff_ne]; exact hne
   have HX:=zK hne
   clear hne
   go_wp2_with (first|(go_at_call 102; refine (aes_twice.calls _ _ _ (tw_some _)).mono ?_; rintro e w' ⟨rfl,m,rfl⟩)|(go_at_call 103; refine (aes_Times.calls 9 _ _ _ _ (mulZ_some _ _ (by omega) (by omega))).mono ?_; rintro e w' ⟨rfl,m,rfl⟩)|(go_at_call 104; refine (aes_left.calls _ _ _ _ (lf_some _ _ (by omega) (by omega))).mono ?_; rintro e w' ⟨rfl,m,rfl⟩))
   go_step3
   refine ⟨rfl,255 - (k+1),by omega,k+1,_,_,_,_,_,_,_,_,_,_,_,_,_,_,_,_,_,_,_,_,_,_,_,_,rfl,by omega,by omega,rfl,?_,?_,?_⟩
   ·exact AK_store (w:=wr.drewN _) HB1.out _ _
   ·rw [heap_setCell_other _ _ _ _ (by simp)]; exact HB0.out
   ·exact (zN hB _).setCell (by simp) _
  have e1:swA (k+1)=1:=by rw [h254]; exact swA_run.2
  have e1':Go.bits .xor .u8 (swA k) (tw (swA k))=1:=e1
  have t3:(Go.bits .xor .u8 (swA k) (tw (swA k)) != 1)=false:=by rw [e1']; rfl
  have hl:=swT_len k
  have hc0:∀ (m:Nat) (v:Value),((wr.drewN m).setCell ⟨w.heap.size+1,(Go.bits .xor .u8 (swA k) (tw (swA k))).toNat,none⟩ v).cell? ⟨w.heap.size+1,0,none⟩=some (.int .u8 ((swT k).getD 0 0)):=fun m v =>
   (World.cell?_setCell_other (w:=wr.drewN m) (a:=⟨w.heap.size+1,(Go.bits .xor .u8 (swA k) (tw (swA k))).toNat,none⟩) (b:=⟨w.heap.size+1,0,none⟩) (v:=v) (by rw [e1']; simp)).trans (AK_cell (w:=wr.drewN m) HB1.out 0 (by rw [hl]; omega))
  have hf0:=frozen_of_row wr (w.heap.size+1) 0 _ _ HB1.out
  have HL:=zK hl
  have E1:=zK h254
  clear e1 e1' hl h254
  have HF:=zK (fun m:Nat=>show (((wr.drewN m).setCell ⟨w.heap.size+1,(Go.bits .xor .u8 (swA k) (tw (swA k))).toNat,none⟩ (.int .u8 (boxZ (mulZ (swB k) 246)))).setCell ⟨w.heap.size+1,0,none⟩ (.int .u8 99)).heap[w.heap.size+1]? = some (.cells (AK .u8 swapsL) 97 (0,0)) by
   refine (AK_store (AK_store (w:=wr.drewN m) HB1.out _ _) _ _).trans ?_
   rw [E1.out]
   rfl)
  have HS:=zK (fun m:Nat=>show (((wr.drewN m).setCell ⟨w.heap.size+1,(Go.bits .xor .u8 (swA k) (tw (swA k))).toNat,none⟩ (.int .u8 (boxZ (mulZ (swB k) 246)))).setCell ⟨w.heap.size+1,0,none⟩ (.int .u8 99)).heap[w.heap.size]? = some (.cells (AK .u8 (swT 0)) 97 (0,0)) by
   rw [heap_setCell_other _ _ _ _ (by simp),heap_setCell_other _ _ _ _ (by simp)]; exact HB0.out)
  have HBl:=zK (fun m:Nat=>show Below w.heap.size w (((wr.drewN m).setCell ⟨w.heap.size+1,(Go.bits .xor .u8 (swA k) (tw (swA k))).toNat,none⟩ (.int .u8 (boxZ (mulZ (swB k) 246)))).setCell ⟨w.heap.size+1,0,none⟩ (.int .u8 99)) from ((zN hB m).setCell (by simp) _).setCell (by simp) _)
  clear HB1 HB0 hB
  go_wp2_with (first|(go_at_call 102; refine (aes_twice.calls _ _ _ (tw_some _)).mono ?_; rintro e w' ⟨rfl,m,rfl⟩)|(go_at_call 103; refine (aes_Times.calls 9 _ _ _ _ (mulZ_some _ _ (by omega) (by omega))).mono ?_; rintro e w' ⟨rfl,m,rfl⟩)|(go_at_call 104; refine (aes_left.calls _ _ _ _ (lf_some _ _ (by omega) (by omega))).mono ?_; rintro e w' ⟨rfl,m,rfl⟩)|(refine wpList_load_row rfl 97 (.tmp 1) rfl (w.heap.size+1) rfl 97 (AK .u8 swapsL) (0,0) _ (HF.out _) Tryd.underlying97 rfl (by rw [AK_size,swapsL_len]; kernel_rfl) ?_)|(refine wpList_store_row rfl 97 (.tmp 0) (.tmp 29) rfl w.heap.size (AK .u8 swapsL) rfl rfl 97 (AK .u8 (swT 0)) (HS.out _) (by rw [AK_size,swapsL_len]; kernel_rfl) (by rw [AK_size,AK_size,swapsL_len,swT_len]) (AK_one _ _) ?_))
  simp only [Exit.jump]
  exact bodyPost_ret (results_cell_row (P:=Tryd.prog) (p:=0) (ty:=97) rfl _ _ w.heap.size 97 (AK .u8 swapsL) (0,0) _ rfl (setRow_heap _ _ _ _ _ _ (HS.out _)) Tryd.underlying97 rfl (by rw [AK_size,swapsL_len]; kernel_rfl)) rfl ⟨rfl,below_setRow (HBl.out _) (Nat.le_refl _) _⟩
end Go.Proofs.YtkgijkfcmbpgpaaDoor.Giv
end
