import Derived.Test.YtkgijkfcmbpgpaaDoorS2b0
import Derived.Test.YtkgijkfcmbpgpaaDoorS2b1
import Derived.Test.YtkgijkfcmbpgpaaDoorS2b10
import Derived.Test.YtkgijkfcmbpgpaaDoorS2b12
import Derived.Test.YtkgijkfcmbpgpaaDoorS2b14
import Derived.Test.YtkgijkfcmbpgpaaDoorS2b2
import Derived.Test.YtkgijkfcmbpgpaaDoorS2b3
import Derived.Test.YtkgijkfcmbpgpaaDoorS2b4
import Derived.Test.YtkgijkfcmbpgpaaDoorS2b8
import Derived.Test.YtkgijkfcmbpgpaaDoorS2b9
section
namespace Go.Proofs.YtkgijkfcmbpgpaaDoor.PAll
open Go.RowKit Go.Proofs.YtkgijkfcmbpgpaaDoorW.PrintWords Go.Proofs.YtkgijkfcmbpgpaaDoorW.PrintLast Go.Proofs.YtkgijkfcmbpgpaaDoorW.PrintMore
open Go.Proofs.YtkgijkfcmbpgpaaDoor.Giv
attribute [local go_sem] max2_int min2_int max_two min_two max_three min_three max_four min_four
set_option linter.unusedVariables false
set_option linter.unusedSimpArgs false
mutual
def legateref02_Pad.l0:Nat→Int→List Int→Option (ByteArray)
  | 0,_,_=>none
  | k+1,x0,x3=>if (Int.tmod (wrap64 ((wrap64 (x0+(x3.length:Int)))+8)) 64)=0 then (legateref02_Pad.l1 k x0 x3 7) else (if x3.length<140737488355328 then (legateref02_Pad.l0 k x0 (x3++[0])) else (none))
def legateref02_Pad.l1:Nat→Int→List Int→Int→Option (ByteArray)
  | 0,_,_,_=>none
  | k+1,x0,x3,x4=>if x4≥0 then (if 0≤(wrap64 (8 * x4)) then (if x3.length<140737488355328 then (legateref02_Pad.l1 k x0 (x3++[(shr .u64 (IntKind.u64.wrap ((IntKind.u64.wrap (x0)) * 8)) (wrap64 (8 * x4))) % 256]) (wrap64 (x4 - 1))) else (none)) else (none)) else (some (strOfNums x3))
end
def legateref02_Pad.f (k:Nat) (a0:Int):Option (ByteArray):=if a0<0 then (some (⟨#[]⟩:ByteArray)) else (legateref02_Pad.l0 k a0 (([128]:List Int)))
set_option maxHeartbeats 8000000 in
set_option maxRecDepth 100000 in
theorem legateref02_Pad.calls (k:Nat) (a0:Int) (r:ByteArray) (w:World) (h:legateref02_Pad.f k a0=some r) :
 Calls Tryd.prog 28 #[.int .i64 a0] w fun e w'=>e=.returned (.string r)∧Below w.heap.size w w':=by
 have HB:=zK (Below.refl w.heap.size w)
 have H:(if a0<0 then (some (⟨#[]⟩:ByteArray)) else (legateref02_Pad.l0 k a0 (([128]:List Int))))=some r:=h
 clear h
 by_cases c2:a0<0
 case pos =>
  rw [if_pos c2] at H
  have c2b0:decide (a0<0)=true:=decide_eq_true c2
  clear c2
  obtain rfl:=Option.some.inj H
  go_enter Tryd.func28,Tryd.ntmps28
  go_wp2
  go_ret
  exact ⟨by first|rfl|(simp [errW_none,errW_some]<;>rfl)|(simp [*,errW_none,errW_some]<;>rfl),by repeat (first|(with_reducible first|exact HB.out|apply zA|apply zN|apply zD)|exact HB.out)⟩
 rw [if_neg c2] at H
 have c2b0:decide (a0<0)=false:=decide_eq_false c2
 clear c2
 obtain ⟨y220,hy220⟩:∃ y_:List Int,y_=(([128]:List Int)):=⟨_,rfl⟩
 replace H:(legateref02_Pad.l0 k a0 y220)=some r:=by first|(rw [hy220]; with_reducible exact H)|(have H2_:=(Option.bind_some _ _).symm.trans H; rw [hy220]; with_reducible exact H2_)|(have H2_:=(Option.bind_some _ _).symm.trans H; with_reducible exact H2_)|with_reducible exact H|(rw [hy220]; exact H)|exact H
 have Ny220:=zK hy220
 clear hy220
 have H':=zK H
 clear H
 go_enter Tryd.func28,Tryd.ntmps28
 go_wp2_with (first|((with_reducible refine gate_dst (N:=7) rfl ?_); refine Kd.R_lit (Kd.int .u8) _ 5 ?hg (N:=7) ?hd (xs:=([128]:List Int)) (inner:=[.int .u8 128]) (ok:=fun _=>True) (okp:=fun _=>True) ?hr ?hp (fun _ hk=>hk) trivial (Below.refl _ _) (Nat.le_refl _) (by simp) ?_; (case hd=>rfl); (case hg=>rfl); (case hr=>first|(go_simp; done)|(go_simp; rfl)); (case hp=>exact (Reps.one (show Kd.M (Kd.int .u8) _ _ _ 128 [.int .u8 128] from rfl) (Reps.none _ _))); intro v221 w3 ho4 hb hg_ hnew_; clear hg_ hnew_; (first|rw [← Ny220.out] at ho4|(simp only [Int.reduceToNat] at ho4; rw [← Ny220.out] at ho4)); have n0_:=zK (Kd.R_lower ho4 (below_size (by repeat (first|(with_reducible first|exact HB.out|apply zA|apply zN|apply zD)|exact HB.out)))); have n1_:=zK (below_step (by repeat (first|(with_reducible first|exact HB.out|apply zA|apply zN|apply zD)|exact HB.out)) hb); clear HB; have HO222:=n0_; have HB:=n1_; clear n0_ n1_; clear hb ho4))
 go_loopg [3] k (fun kq v3 w'=>∃ (x3_1:List Int),Aside0 (legateref02_Pad.l0 kq a0 x3_1=some r)∧Aside0 (kq≤k)∧Aside0 (Kd.R (Kd.int .u8) 5 w' w.heap.size (fun _=>True) v3 x3_1)∧Aside0 (Below w.heap.size w w'))
 case atStart=>exact ⟨(y220),H',⟨Nat.le_refl _⟩,⟨by (with_reducible repeat (first|apply Kd.R_alloc|apply Kd.R_drewN|apply Kd.R_drew)); exact HO222.out⟩,⟨by repeat (first|(with_reducible first|exact HB.out|apply zA|apply zN|apply zD)|exact HB.out)⟩⟩
 case round =>
  clear H'
  try clear c2
  try clear c2b0
  try clear p2
  obtain ⟨x3_1,HA,HK1,HO_3,HB⟩:=hrel
  cases gk with
  | zero=>exact absurd HA.out (by simp [legateref02_Pad.l0])
  | succ k1 =>
   have H:=HA.out
   clear HA
   simp only [legateref02_Pad.l0] at H
   by_cases c5:(Int.tmod (wrap64 ((wrap64 (a0+(x3_1.length:Int)))+8)) 64)=0
   case neg =>
    rw [if_neg c5] at H
    have c5b0:((Int.tmod (wrap64 ((wrap64 (a0+(x3_1.length:Int)))+8)) 64) == 0)=false:=beq_eq_false_iff_ne.mpr c5
    have c5b1:((Int.tmod (wrap64 ((wrap64 (a0+(x3_1.length:Int)))+8)) 64) != 0)=true:=bne_iff_ne.mpr c5
    by_cases c14:x3_1.length<140737488355328
    case neg =>
     rw [if_neg c14] at H
     exact absurd H (by simp)
    rw [if_pos c14] at H
    have LMc14:=zK c14
    clear c14
    obtain ⟨y223,hy223⟩:∃ y_:List Int,y_=(x3_1++[0]):=⟨_,rfl⟩
    replace H:(legateref02_Pad.l0 k1 a0 y223)=some r:=by first|(rw [hy223]; with_reducible exact H)|(have H2_:=(Option.bind_some _ _).symm.trans H; rw [hy223]; with_reducible exact H2_)|(have H2_:=(Option.bind_some _ _).symm.trans H; with_reducible exact H2_)|with_reducible exact H|(rw [hy223]; exact H)|exact H
    have Ny223:=zK hy223
    clear hy223
    have H':=zK H
    clear H
    obtain ⟨Ao15,co15,eo15⟩:=Kd.R_slice HO_3.out
    subst eo15
    go_wp2_with (first|((with_reducible refine gate_builtin (b:=.append) (xs:=#[.tmp 15,.tmp 16]) rfl ?_); at_builtin; refine Kd.R_append (Kd.int .u8) (w0:=w) w.heap.size rfl (.tmp 15) (.tmp 16) 44 5 (.int .u8 0) 1 rfl Tryd.underlying44 info5 rfl (by decide) (by omega) (.slice Ao15 x3_1.length co15) x3_1 0 [.int .u8 0] (fun _=>True) (fun _=>False) rfl rfl ?aP (fun _ hk=>hk.elim) ?aF ?aO ?aB ?aS ?aL ?_; (case aP=>exact rfl); (case aB=>exact (by repeat (first|(with_reducible first|exact HB.out|apply zA|apply zN|apply zD)|exact HB.out))); (case aF=>exact (fun _ _=>trivial)); (case aO=>exact (by (with_reducible repeat (first|apply Kd.R_alloc|apply Kd.R_drewN|apply Kd.R_drew)); exact HO_3.out)); (case aS=>exact (below_size (by repeat (first|(with_reducible first|exact HB.out|apply zA|apply zN|apply zD)|exact HB.out)))); (case aL=>have:=LMc14.out; omega); intro v224 w16 ho hb hg hat; rw [← Ny223.out] at ho; have n0_:=zK (hb); have n1_:=zK (ho); clear HB; clear HO_3; have HB:=n0_; have HO225:=n1_; clear n0_ n1_; clear ho hb hg hat))
    go_roundg k1
    case measure=>have:=HK1.out; omega
    case rel=>exact ⟨(y223),H',⟨by have:=HK1.out; omega⟩,⟨by (with_reducible repeat (first|apply Kd.R_alloc|apply Kd.R_drewN|apply Kd.R_drew)); exact HO225.out⟩,⟨by repeat (first|(with_reducible first|exact HB.out|apply zA|apply zN|apply zD)|exact HB.out)⟩⟩
   rw [if_pos c5] at H
   have c5b0:((Int.tmod (wrap64 ((wrap64 (a0+(x3_1.length:Int)))+8)) 64) == 0)=true:=beq_iff_eq.mpr c5
   have c5b1:((Int.tmod (wrap64 ((wrap64 (a0+(x3_1.length:Int)))+8)) 64) != 0)=false:=bne_eq_false_iff_eq.mpr c5
   clear c5
   have H':=zK H
   clear H
   obtain ⟨Ao6,co6,eo6⟩:=Kd.R_slice HO_3.out
   subst eo6
   go_wp2
   go_loopg [3,4] k1 (fun kq v3 v4 w'=>∃ (x3_2:List Int) (x4_2:Int),v4=.int .i64 x4_2∧Aside0 (legateref02_Pad.l1 kq a0 x3_2 x4_2=some r)∧Aside0 (kq≤k1)∧Aside0 (Kd.R (Kd.int .u8) 5 w' w.heap.size (fun _=>True) v3 x3_2)∧Aside0 (Below w.heap.size w w'))
   case atStart=>exact ⟨(x3_1),(7),(by first|rfl|(simp; done)|(simp [*]; done)),H',⟨Nat.le_refl _⟩,⟨by (with_reducible repeat (first|apply Kd.R_alloc|apply Kd.R_drewN|apply Kd.R_drew)); exact HO_3.out⟩,⟨by repeat (first|(with_reducible first|exact HB.out|apply zA|apply zN|apply zD)|exact HB.out)⟩⟩
   case round =>
    clear H'
    try clear c2
    try clear c2b0
    try clear p2
    try clear c5
    try clear c5b0
    try clear c5b1
    try clear p6
    try clear p2
    obtain ⟨x3_2,x4_2,rfl,HA,HK2,HO_3,HB⟩:=hrel
    cases gk with
    | zero=>exact absurd HA.out (by simp [legateref02_Pad.l1])
    | succ k2 =>
     have H:=HA.out
     clear HA
     simp only [legateref02_Pad.l1] at H
     by_cases c7:x4_2≥0
     case neg =>
      rw [if_neg c7] at H
      have c7b0:decide (0≤x4_2)=false:=decide_eq_false c7
      clear c7
      obtain rfl:=Option.some.inj H
      have hcv13:=own_string (P:=Tryd.prog) Tryd.underlying44 Tryd.underlying5 Tryd.underlying9 (Kd.own_of_R HO_3.out)
      go_wp2
      go_ret
      exact ⟨by first|rfl|(simp [errW_none,errW_some]<;>rfl)|(simp [*,errW_none,errW_some]<;>rfl),by repeat (first|(with_reducible first|exact HB.out|apply zA|apply zN|apply zD)|exact HB.out)⟩
     rw [if_pos c7] at H
     have c7b0:decide (0≤x4_2)=true:=decide_eq_true c7
     clear c7
     obtain ⟨ji8,hji8⟩:∃ j_:Int,(wrap64 (8 * x4_2))=j_:=⟨_,rfl⟩
     replace H:(if 0≤(ji8) then (if x3_2.length<140737488355328 then (legateref02_Pad.l1 k2 a0 (x3_2++[(shr .u64 (IntKind.u64.wrap ((IntKind.u64.wrap (a0)) * 8)) (ji8)) % 256]) (wrap64 (x4_2 - 1))) else (none)) else (none))=some r:=by first|(rw [hji8] at H; exact H)|(simp only [hji8] at H ⊢; exact H)
     have hji8w:(IntKind.i64.wrap (8 * x4_2))=ji8:=(i64_w _).trans hji8
     by_cases c9:0≤(ji8)
     case neg =>
      rw [if_neg c9] at H
      exact absurd H (by simp)
     rw [if_pos c9] at H
     have c9b0:=eq_true c9
     have c9b0z:=c9b0
     (try simp only [ByteArray.size_append,Int.natCast_add] at c9b0z)
     have c9b1:decide (0≤(ji8))=true:=decide_eq_true c9
     have c9b1z:=c9b1
     (try simp only [ByteArray.size_append,Int.natCast_add] at c9b1z)
     clear c9
     obtain ⟨ji10,hji10⟩:∃ j_:Int,(shr .u64 (IntKind.u64.wrap ((IntKind.u64.wrap (a0)) * 8)) (ji8))=j_:=⟨_,rfl⟩
     replace H:(if x3_2.length<140737488355328 then (legateref02_Pad.l1 k2 a0 (x3_2++[(ji10) % 256]) (wrap64 (x4_2 - 1))) else (none))=some r:=by first|(rw [hji10] at H; exact H)|(simp only [hji10] at H ⊢; exact H)
     have hji10_:((IntKind.u64.wrap ((IntKind.u64.wrap (a0)) * 8)) / 2 ^ min (ji8).toNat 64)=ji10:=hji10
     have hji10z:(ji8)≤64→((IntKind.u64.wrap ((IntKind.u64.wrap (a0)) * 8)) / 2 ^ (ji8).toNat)=ji10:=shr_small hji10
     by_cases c11:x3_2.length<140737488355328
     case neg =>
      rw [if_neg c11] at H
      exact absurd H (by simp)
     rw [if_pos c11] at H
     have LMc11:=zK c11
     clear c11
     obtain ⟨y226,hy226⟩:∃ y_:List Int,y_=(x3_2++[(ji10) % 256]):=⟨_,rfl⟩
     replace H:(legateref02_Pad.l1 k2 a0 y226 (wrap64 (x4_2 - 1)))=some r:=by first|(rw [hy226]; with_reducible exact H)|(have H2_:=(Option.bind_some _ _).symm.trans H; rw [hy226]; with_reducible exact H2_)|(have H2_:=(Option.bind_some _ _).symm.trans H; with_reducible exact H2_)|with_reducible exact H|(rw [hy226]; exact H)|exact H
     have Ny226:=zK hy226
     clear hy226
     have H':=zK H
     clear H
     go_wp2_with (first|((with_reducible refine gate_builtin (b:=.append) (xs:=#[.tmp 22,.tmp 30]) rfl ?_); at_builtin; refine Kd.R_append (Kd.int .u8) (w0:=w) w.heap.size rfl (.tmp 22) (.tmp 30) 44 5 (.int .u8 0) 1 rfl Tryd.underlying44 info5 rfl (by decide) (by omega) u3 x3_2 ((ji10) % 256) [.int .u8 ((ji10) % 256)] (fun _=>True) (fun _=>False) rfl rfl ?aP (fun _ hk=>hk.elim) ?aF ?aO ?aB ?aS ?aL ?_; (case aP=>exact rfl); (case aB=>exact (by repeat (first|(with_reducible first|exact HB.out|apply zA|apply zN|apply zD)|exact HB.out))); (case aF=>exact (fun _ _=>trivial)); (case aO=>exact (by (with_reducible repeat (first|apply Kd.R_alloc|apply Kd.R_drewN|apply Kd.R_drew)); exact HO_3.out)); (case aS=>exact (below_size (by repeat (first|(with_reducible first|exact HB.out|apply zA|apply zN|apply zD)|exact HB.out)))); (case aL=>have:=LMc11.out; omega); intro v227 w12 ho hb hg hat; rw [← Ny226.out] at ho; have n0_:=zK (hb); have n1_:=zK (ho); clear HB; clear HO_3; have HB:=n0_; have HO228:=n1_; clear n0_ n1_; clear ho hb hg hat))
     go_roundg k2
     case measure=>have:=HK1.out; have:=HK2.out; omega
     case rel=>exact ⟨(y226),(wrap64 (x4_2 - 1)),(by first|rfl|(simp; done)|(simp [*]; done)),H',⟨by have:=HK1.out; have:=HK2.out; omega⟩,⟨by (with_reducible repeat (first|apply Kd.R_alloc|apply Kd.R_drewN|apply Kd.R_drew)); exact HO228.out⟩,⟨by repeat (first|(with_reducible first|exact HB.out|apply zA|apply zN|apply zD)|exact HB.out)⟩⟩
def legateref02_SumBy.l0:Nat→List Int→ByteArray→ByteArray→Int→Option (ByteArray)
  | 0,_,_,_,_=>none
  | k+1,x0,x7,x8,x9=>if x9<(x7.size:Int) then (if 0≤x9 then (if x9≤(wrap64 (x9+64)) then (if (wrap64 (x9+64))≤(x7.size:Int) then ((legateref02_Block.f k x0 x8 (x7.extract (x9:Int).toNat ((wrap64 (x9+64)):Int).toNat)).bind fun t230=>(legateref02_SumBy.l0 k x0 x7 t230 (wrap64 (x9+64)))) else (none)) else (none)) else (none)) else (some x8)
def legateref02_SumBy.f (k:Nat) (l0:List Int) (a1:ByteArray) (a2:ByteArray):Option (ByteArray):=(legateref02_Pad.f k (a2.size:Int)).bind fun t229=>(if a2.size+t229.size≤9223372036854775807 then (legateref02_SumBy.l0 k l0 (a2++t229) a1 0) else (none))
set_option maxHeartbeats 8000000 in
set_option maxRecDepth 100000 in
theorem legateref02_SumBy.calls (k:Nat) (A0:Option Addr) (c0:Nat) (l0:List Int) (a1:ByteArray) (a2:ByteArray) (r:ByteArray) (w:World) (hr0:Kd.C (Kd.int .i64) w A0 l0.length l0) (hc0:l0.length≤c0) (h:legateref02_SumBy.f k l0 a1 a2=some r) :
 Calls Tryd.prog 58 #[.slice A0 l0.length c0,.string a1,.string a2] w fun e w'=>e=.returned (.string r)∧Below w.heap.size w w':=by
 have HR0:=zK hr0
 have HC0:=zK hc0
 clear hr0 hc0
 have HB:=zK (Below.refl w.heap.size w)
 have H:((legateref02_Pad.f k (a2.size:Int)).bind fun t229=>(if a2.size+t229.size≤9223372036854775807 then (legateref02_SumBy.l0 k l0 (a2++t229) a1 0) else (none)))=some r:=h
 clear h
 replace H:=Option.bind_eq_some_iff.mp H
 obtain ⟨t229,A40,H⟩:=H
 replace H:(if a2.size+t229.size≤9223372036854775807 then (legateref02_SumBy.l0 k l0 (a2++t229) a1 0) else (none))=some r:=H
 have A4:=zK A40
 clear A40
 by_cases c5:a2.size+t229.size≤9223372036854775807
 case neg =>
  rw [if_neg c5] at H
  exact absurd H (by simp)
 rw [if_pos c5] at H
 have c5b0:=eq_true c5
 have c5b0z:=c5b0
 (try simp only [ByteArray.size_append,Int.natCast_add] at c5b0z)
 have c5b1:decide (a2.size+t229.size≤9223372036854775807)=true:=decide_eq_true c5
 have c5b1z:=c5b1
 (try simp only [ByteArray.size_append,Int.natCast_add] at c5b1z)
 try have c5b2:(9223372036854775807<a2.size+t229.size)=False:=eq_false (Nat.not_lt.2 c5)
 have H':=zK H
 clear H
 go_enter Tryd.func58,Tryd.ntmps58
 go_wp2_with (first|((with_reducible refine gate_callee (f:=28) rfl ?_); refine goesL_ (some 13) rfl rfl Tryd.func28 (by kernel_rfl) rfl #[.int .i64 (a2.size:Int)] rfl (by (try simp only [zm]); first|done|rfl|(simp only [zl]; rfl)) ?_; (with_reducible refine (legateref02_Pad.calls k (a2.size:Int) t229 _ A4.out).mono ?_); rintro e w6 ⟨rfl,hb⟩; refine ⟨_,rfl,?_⟩; have n0_:=zK (below_step (by repeat (first|(with_reducible first|exact HB.out|apply zA|apply zN|apply zD)|exact HB.out)) hb); clear HB; have HB:=n0_; clear n0_; (try clear hb); (try clear hb2); (try clear hk); (try clear hi)))
 go_loopg [8,9] k (fun kq v8 v9 w'=>∃ (x8_1:ByteArray) (x9_1:Int),v8=.string x8_1∧v9=.int .i64 x9_1∧Aside0 (legateref02_SumBy.l0 kq l0 (a2++t229) x8_1 x9_1=some r)∧Aside0 (kq≤k)∧Aside0 (Below w.heap.size w w'))
 case atStart=>exact ⟨(a1),(0),(by first|rfl|(simp; done)|(simp [*]; done)),(by first|rfl|(simp; done)|(simp [*]; done)),H',⟨Nat.le_refl _⟩,⟨by repeat (first|(with_reducible first|exact HB.out|apply zA|apply zN|apply zD)|exact HB.out)⟩⟩
 case round =>
  clear H'
  try clear c2
  try clear p2
  try clear c5
  try clear c5b0
  try clear c5b1
  try clear c5b2
  obtain ⟨x8_1,x9_1,rfl,rfl,HA,HK1,HB⟩:=hrel
  cases gk with
  | zero=>exact absurd HA.out (by simp [legateref02_SumBy.l0])
  | succ k1 =>
   have H:=HA.out
   clear HA
   simp only [legateref02_SumBy.l0] at H
   by_cases c7:x9_1<((a2++t229).size:Int)
   case neg =>
    rw [if_neg c7] at H
    have c7b0:decide (x9_1<((a2++t229).size:Int))=false:=decide_eq_false c7
    have c7b0z:=c7b0
    (try simp only [ByteArray.size_append,Int.natCast_add] at c7b0z)
    clear c7
    obtain rfl:=Option.some.inj H
    go_wp2
    go_ret
    exact ⟨by first|rfl|(simp [errW_none,errW_some]<;>rfl)|(simp [*,errW_none,errW_some]<;>rfl),by repeat (first|(with_reducible first|exact HB.out|apply zA|apply zN|apply zD)|exact HB.out)⟩
   rw [if_pos c7] at H
   have c7b0:decide (x9_1<((a2++t229).size:Int))=true:=decide_eq_true c7
   have c7b0z:=c7b0
   (try simp only [ByteArray.size_append,Int.natCast_add] at c7b0z)
   clear c7
   by_cases c8:0≤x9_1
   case neg =>
    rw [if_neg c8] at H
    exact absurd H (by simp)
   rw [if_pos c8] at H
   have c8b0:=eq_true c8
   have c8b0z:=c8b0
   (try simp only [ByteArray.size_append,Int.natCast_add] at c8b0z)
   have c8b1:decide (0≤x9_1)=true:=decide_eq_true c8
   have c8b1z:=c8b1
   (try simp only [ByteArray.size_append,Int.natCast_add] at c8b1z)
   clear c8
   by_cases c9:x9_1≤(wrap64 (x9_1+64))
   case neg =>
    rw [if_neg c9] at H
    exact absurd H (by simp)
   rw [if_pos c9] at H
   have c9b0:=eq_true c9
   have c9b1:decide (x9_1≤(wrap64 (x9_1+64)))=true:=decide_eq_true c9
   by_cases c10:(wrap64 (x9_1+64))≤((a2++t229).size:Int)
   case neg =>
    rw [if_neg c10] at H
    exact absurd H (by simp)
   rw [if_pos c10] at H
   have c10b0:=eq_true c10
   have c10b0z:=c10b0
   (try simp only [ByteArray.size_append,Int.natCast_add] at c10b0z)
   have c10b1:decide ((wrap64 (x9_1+64))≤((a2++t229).size:Int))=true:=decide_eq_true c10
   have c10b1z:=c10b1
   (try simp only [ByteArray.size_append,Int.natCast_add] at c10b1z)
   replace H:=Option.bind_eq_some_iff.mp H
   obtain ⟨t230,A110,H⟩:=H
   replace H:(legateref02_SumBy.l0 k1 l0 (a2++t229) t230 (wrap64 (x9_1+64)))=some r:=H
   have A11:=zK A110
   clear A110
   have H':=zK H
   clear H
   go_wp2_with (first|((with_reducible refine gate_callee (f:=23) rfl ?_); refine goesL_ (some 29) rfl rfl Tryd.func23 (by kernel_rfl) rfl #[.slice A0 l0.length c0,.string x8_1,.string ((a2++t229).extract (x9_1:Int).toNat ((wrap64 (x9_1+64)):Int).toNat)] rfl (by (try simp only [zm]); first|done|rfl|(simp only [zl]; rfl)) ?_; (with_reducible refine (legateref02_Block.calls k1 _ _ l0 x8_1 ((a2++t229).extract (x9_1:Int).toNat ((wrap64 (x9_1+64)):Int).toNat) t230 _ ?side1 ?side2 A11.out).mono ?_); (case side1=>repeat (first|exact (Kd.C_below HR0.out HB.out)|(with_reducible refine Kd.C_alloc ?_ _)|(with_reducible refine Kd.C_drewN ?_ _)|(with_reducible refine Kd.C_drew ?_))); (case side2=>exact HC0.out); rintro e w12 ⟨rfl,hb⟩; refine ⟨_,rfl,?_⟩; have n0_:=zK (below_step (by repeat (first|(with_reducible first|exact HB.out|apply zA|apply zN|apply zD)|exact HB.out)) hb); clear HB; have HB:=n0_; clear n0_; (try clear hb); (try clear hb2); (try clear hk); (try clear hi)))
   go_roundg k1
   case measure=>have:=HK1.out; omega
   case rel=>exact ⟨(t230),(wrap64 (x9_1+64)),(by first|rfl|(simp; done)|(simp [*]; done)),(by first|rfl|(simp; done)|(simp [*]; done)),H',⟨by have:=HK1.out; omega⟩,⟨by repeat (first|(with_reducible first|exact HB.out|apply zA|apply zN|apply zD)|exact HB.out)⟩⟩
end Go.Proofs.YtkgijkfcmbpgpaaDoor.PAll
end
section
namespace Go.Proofs.YtkgijkfcmbpgpaaDoor.PAll
open Go.RowKit Go.Proofs.YtkgijkfcmbpgpaaDoorW.PrintWords Go.Proofs.YtkgijkfcmbpgpaaDoorW.PrintLast Go.Proofs.YtkgijkfcmbpgpaaDoorW.PrintMore
open Go.Proofs.YtkgijkfcmbpgpaaDoor.Giv
attribute [local go_sem] max2_int min2_int max_two min_two max_three min_three max_four min_four
set_option linter.unusedVariables false
set_option linter.unusedSimpArgs false
def legateref03_New.f (k:Nat):Option (List Int×ByteArray):=(legateref02_Keys.f k).bind fun t318=>((legateref02_Start.f k).bind fun t321=>(some (t318,t321)))
set_option maxHeartbeats 8000000 in
set_option maxRecDepth 100000 in
theorem legateref03_New.calls (k:Nat) (r1:List Int) (r2:ByteArray) (w:World) (h:legateref03_New.f k=some (r1,r2)) :
 Calls Tryd.prog 35 #[] w fun e w'=>∃ v0_:Value,e=.returned (.agg #[v0_,.string r2])∧Kd.R (Kd.int .i64) 3 w' w.heap.size (fun _=>True) v0_ r1∧Below w.heap.size w w':=by
 have hu42:=Tryd.underlying42
 have HB:=zK (Below.refl w.heap.size w)
 have H:((legateref02_Keys.f k).bind fun t318=>((legateref02_Start.f k).bind fun t321=>(some (t318,t321))))=some (r1,r2):=h
 clear h
 replace H:=Option.bind_eq_some_iff.mp H
 obtain ⟨t318,A10,H⟩:=H
 replace H:((legateref02_Start.f k).bind fun t321=>(some (t318,t321)))=some (r1,r2):=H
 have A1:=zK A10
 clear A10
 replace H:=Option.bind_eq_some_iff.mp H
 obtain ⟨t321,A20,H⟩:=H
 replace H:(some (t318,t321))=some (r1,r2):=H
 have A2:=zK A20
 clear A20
 simp only [Option.some.injEq,Prod.mk.injEq] at H
 obtain ⟨rfl,rfl⟩:=H
 go_enter Tryd.func35,Tryd.ntmps35
 go_wp2_with (first|((with_reducible refine gate_dst (N:=0) rfl ?_); refine box_event ?hg (N:=0) ?hd (cs:=#[.slice none 0 0,.string (⟨#[]⟩:ByteArray)]) (t:=42) ?hr ?_; (case hd=>rfl); (case hg=>rfl); (case hr=>first|(go_simp; done)|(go_simp; rfl)); intro gb317 hg w3 hbox hb; have n0_:=zK (below_step (by repeat (first|(with_reducible first|exact HB.out|apply zA|apply zN|apply zD)|exact HB.out)) hb); have n1_:=zK (hbox); have n2_:=zK ((by rw [hg]; exact (below_size (by repeat (first|(with_reducible first|exact HB.out|apply zA|apply zN|apply zD)|exact HB.out))):w.heap.size≤gb317)); have n3_:=zK ((by rw [hg]; exact (below_size (by repeat (first|(with_reducible first|exact HB.out|apply zA|apply zN|apply zD)|exact HB.out))):w.heap.size≤gb317)); clear HB; have HB:=n0_; have BK317:=n1_; have GW317:=n2_; have GE317:=n3_; clear n0_ n1_ n2_ n3_; clear hb hbox hg)|((with_reducible refine gate_callee (f:=24) rfl ?_); refine goesL_ (some 1) rfl rfl Tryd.func24 (by kernel_rfl) rfl #[] rfl (by (try simp only [zm]); first|done|rfl|(simp only [zl]; rfl)) ?_; (with_reducible refine (legateref02_Keys.calls k t318 _ A1.out).mono ?_); rintro e w4 ⟨v319,rfl,ho0,hb⟩; refine ⟨_,rfl,?_⟩; have n0_:=zK (Kd.R_lower ho0 (below_size (by repeat (first|(with_reducible first|exact HB.out|apply zA|apply zN|apply zD|refine below_set ?_ GE317.out)|exact HB.out)))); have n1_:=zK (blk_below (g:=gb317) (o:=.cells #[.slice none 0 0,.string (⟨#[]⟩:ByteArray)] 42 (0,0)) (by (with_reducible repeat (first|refine blk_drewN ?_ _|refine blk_drew ?_|refine blk_alloc ?_ _)); exact BK317.out) hb); have n2_:=zK (below_step (by repeat (first|(with_reducible first|exact HB.out|apply zA|apply zN|apply zD|refine below_set ?_ GE317.out)|exact HB.out)) hb); clear BK317; clear HB; have HO320:=n0_; have BK317:=n1_; have HB:=n2_; clear n0_ n1_ n2_; (try clear hb); (try clear hb2); (try clear hk); (try clear hi); (try clear ho0))|((with_reducible refine gate_callee (f:=26) rfl ?_); refine goesL_ (some 2) rfl rfl Tryd.func26 (by kernel_rfl) rfl #[] rfl (by (try simp only [zm]); first|done|rfl|(simp only [zl]; rfl)) ?_; (with_reducible refine (legateref02_Start.calls k t321 _ A2.out).mono ?_); rintro e w5 ⟨rfl,hb⟩; refine ⟨_,rfl,?_⟩; have n0_:=zK (Kd.R_below (by (with_reducible repeat (first|apply Kd.R_alloc|apply Kd.R_drewN|apply Kd.R_drew)); exact HO320.out) hb); have n1_:=zK (blk_below (g:=gb317) (o:=.cells #[.slice none 0 0,.string (⟨#[]⟩:ByteArray)] 42 (0,0)) (by (with_reducible repeat (first|refine blk_drewN ?_ _|refine blk_drew ?_|refine blk_alloc ?_ _)); exact BK317.out) hb); have n2_:=zK (below_step (by repeat (first|(with_reducible first|exact HB.out|apply zA|apply zN|apply zD|refine below_set ?_ GE317.out)|exact HB.out)) hb); clear HO320; clear BK317; clear HB; have HO320:=n0_; have BK317:=n1_; have HB:=n2_; clear n0_ n1_ n2_; (try clear hb); (try clear hb2); (try clear hk); (try clear hi); obtain ⟨Ao6,co6,eo6⟩:=Kd.R_slice HO320.out; subst eo6; have hcz7_0:w5.cell? ⟨gb317,0,none⟩=some (.slice none 0 0):=(blk_cell BK317.out 0).trans rfl; have hcz7_1:w5.cell? ⟨gb317,1,none⟩=some (.string (⟨#[]⟩:ByteArray)):=(blk_cell BK317.out 1).trans rfl; have hfz7_0:=blk_frozen BK317.out 0; have hfz7_1:=blk_frozen BK317.out 1))
 refine bodyPost_ret (results_cell_row rfl _ _ gb317 42 #[.slice Ao6 t318.length co6,.string t321] (0,0) _ rfl (by (with_reducible repeat (first|refine blk_drewN ?_ _|refine blk_drew ?_|refine blk_alloc ?_ _)); refine blk_put (cs:=#[.slice Ao6 t318.length co6,.string (⟨#[]⟩:ByteArray)]) ?_ 1 _ rfl; (with_reducible repeat (first|refine blk_drewN ?_ _|refine blk_drew ?_|refine blk_alloc ?_ _)); refine blk_put (cs:=#[.slice none 0 0,.string (⟨#[]⟩:ByteArray)]) ?_ 0 _ rfl; (with_reducible repeat (first|refine blk_drewN ?_ _|refine blk_drew ?_|refine blk_alloc ?_ _)); exact BK317.out) Tryd.underlying42 rfl (by kernel_rfl)) rfl ?_
 exact ⟨_,by first|rfl|(simp [errW_none,errW_some]<;>rfl)|(simp [*,errW_none,errW_some]<;>rfl),by (with_reducible repeat (first|apply Kd.R_alloc|apply Kd.R_drewN|apply Kd.R_drew)); exact Kd.R_mono (Kd.R_far (p:=⟨gb317,1,none⟩) (Kd.R_far (p:=⟨gb317,0,none⟩) (Kd.R_types HO320.out BK317.out (by decide)) (fun _ hk=>hk.2) (.slice Ao6 t318.length co6)) (fun _ hk=>hk.2) (.string t321)) (fun _ hk=>trivial),by repeat (first|(with_reducible first|exact HB.out|apply zA|apply zN|apply zD|refine below_set ?_ GE317.out)|exact HB.out)⟩
def legateref03_Tables_Sum.f (k:Nat) (l0_0:List Int) (a0_1:ByteArray) (a1:ByteArray):Option (ByteArray):=(legateref02_SumBy.f k l0_0 a0_1 a1).bind fun t323=>(some t323)
set_option maxHeartbeats 8000000 in
set_option maxRecDepth 100000 in
theorem legateref03_Tables_Sum.calls (k:Nat) (A0_0:Option Addr) (c0_0:Nat) (l0_0:List Int) (a0_1:ByteArray) (a1:ByteArray) (r:ByteArray) (w:World) (hr0_0:Kd.C (Kd.int .i64) w A0_0 l0_0.length l0_0) (hc0_0:l0_0.length≤c0_0) (h:legateref03_Tables_Sum.f k l0_0 a0_1 a1=some r) :
 Calls Tryd.prog 69 #[.agg #[.slice A0_0 l0_0.length c0_0,.string a0_1],.string a1] w fun e w'=>e=.returned (.string r)∧Below w.heap.size w w':=by
 have hu42:=Tryd.underlying42
 have HR0_0:=zK hr0_0
 have HC0_0:=zK hc0_0
 clear hr0_0 hc0_0
 have HB:=zK (Below.refl w.heap.size w)
 have H:((legateref02_SumBy.f k l0_0 a0_1 a1).bind fun t323=>(some t323))=some r:=h
 clear h
 replace H:=Option.bind_eq_some_iff.mp H
 obtain ⟨t323,A30,H⟩:=H
 replace H:(some t323)=some r:=H
 have A3:=zK A30
 clear A30
 obtain rfl:=Option.some.inj H
 go_enter Tryd.func69,Tryd.ntmps69
 go_wp2_with (first|((with_reducible refine gate_dst (N:=2) rfl ?_); refine box_event ?hg (N:=2) ?hd (cs:=#[.slice A0_0 l0_0.length c0_0,.string a0_1]) (t:=42) ?hr ?_; (case hd=>rfl); (case hg=>rfl); (case hr=>first|(go_simp; done)|(go_simp; rfl)); intro gb322 hg w4 hbox hb; have n0_:=zK (below_step (by repeat (first|(with_reducible first|exact HB.out|apply zA|apply zN|apply zD)|exact HB.out)) hb); have n1_:=zK (hbox); have n2_:=zK ((by rw [hg]; exact (below_size (by repeat (first|(with_reducible first|exact HB.out|apply zA|apply zN|apply zD)|exact HB.out))):w.heap.size≤gb322)); have n3_:=zK ((by rw [hg]; exact (below_size (by repeat (first|(with_reducible first|exact HB.out|apply zA|apply zN|apply zD)|exact HB.out))):w.heap.size≤gb322)); clear HB; have HB:=n0_; have BK322:=n1_; have GW322:=n2_; have GE322:=n3_; clear n0_ n1_ n2_ n3_; clear hb hbox hg; have hcz5_0:w4.cell? ⟨gb322,0,none⟩=some (.slice A0_0 l0_0.length c0_0):=(blk_cell BK322.out 0).trans rfl; have hcz5_1:w4.cell? ⟨gb322,1,none⟩=some (.string a0_1):=(blk_cell BK322.out 1).trans rfl; have hfz5_0:=blk_frozen BK322.out 0; have hfz5_1:=blk_frozen BK322.out 1)|((with_reducible refine gate_callee (f:=58) rfl ?_); refine goesL_ (some 10) rfl rfl Tryd.func58 (by kernel_rfl) rfl #[.slice A0_0 l0_0.length c0_0,.string a0_1,.string a1] rfl (by (try simp only [zm]); first|done|rfl|(simp only [zl]; rfl)) ?_; (with_reducible refine (legateref02_SumBy.calls k _ _ l0_0 a0_1 a1 t323 _ ?side1 ?side2 A3.out).mono ?_); (case side1=>repeat (first|exact (Kd.C_below HR0_0.out HB.out)|(with_reducible refine Kd.C_alloc ?_ _)|(with_reducible refine Kd.C_drewN ?_ _)|(with_reducible refine Kd.C_drew ?_))); (case side2=>exact HC0_0.out); rintro e w6 ⟨rfl,hb⟩; refine ⟨_,rfl,?_⟩; have n0_:=zK (blk_below (g:=gb322) (o:=.cells #[.slice A0_0 l0_0.length c0_0,.string a0_1] 42 (0,0)) (by (with_reducible repeat (first|refine blk_drewN ?_ _|refine blk_drew ?_|refine blk_alloc ?_ _)); exact BK322.out) hb); have n1_:=zK (below_step (by repeat (first|(with_reducible first|exact HB.out|apply zA|apply zN|apply zD|refine below_set ?_ GE322.out)|exact HB.out)) hb); clear BK322; clear HB; have BK322:=n0_; have HB:=n1_; clear n0_ n1_; (try clear hb); (try clear hb2); (try clear hk); (try clear hi)))
 go_ret
 exact ⟨by first|rfl|(simp [errW_none,errW_some]<;>rfl)|(simp [*,errW_none,errW_some]<;>rfl),by repeat (first|(with_reducible first|exact HB.out|apply zA|apply zN|apply zD|refine below_set ?_ GE322.out)|exact HB.out)⟩
end Go.Proofs.YtkgijkfcmbpgpaaDoor.PAll
end
