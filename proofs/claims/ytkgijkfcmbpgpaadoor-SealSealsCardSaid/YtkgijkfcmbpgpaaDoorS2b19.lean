import Derived.Test.YtkgijkfcmbpgpaaDoorS2b0
import Derived.Test.YtkgijkfcmbpgpaaDoorS2b1
import Derived.Test.YtkgijkfcmbpgpaaDoorS2b18
import Derived.Test.YtkgijkfcmbpgpaaDoorS2b2
section
namespace Go.Proofs.YtkgijkfcmbpgpaaDoor.PAll
open Go.RowKit Go.Proofs.YtkgijkfcmbpgpaaDoorW.PrintWords Go.Proofs.YtkgijkfcmbpgpaaDoorW.PrintLast Go.Proofs.YtkgijkfcmbpgpaaDoorW.PrintMore
attribute [local go_sem] max2_int min2_int max_two min_two max_three min_three max_four min_four
set_option linter.unusedVariables false
set_option linter.unusedSimpArgs false
mutual
def legateref04_Expand.l0:Nat→List Int→ByteArray→List Int→Int→Option (ByteArray)
  | 0,_,_,_,_=>none
  | k+1,x0,x1,x5,x6=>if x6<16 then (if 0≤x6 then (if x6<(x1.size:Int) then (if x6<(x5.length:Int) then (legateref04_Expand.l0 k x0 x1 (x5.set (x6:Int).toNat (bt x1 x6)) (wrap64 (x6+1))) else (none)) else (none)) else (none)) else (legateref04_Expand.l1 k x0 x5 1 4)
def legateref04_Expand.l1:Nat→List Int→List Int→Int→Int→Option (ByteArray)
  | 0,_,_,_,_=>none
  | k+1,x0,x5,x7,x8=>if x8<44 then (if 0≤(wrap64 ((wrap64 (4 * x8)) - 4)) then (if (wrap64 ((wrap64 (4 * x8)) - 4))<(x5.length:Int) then (if 0≤(wrap64 ((wrap64 (4 * x8)) - 3)) then (if (wrap64 ((wrap64 (4 * x8)) - 3))<(x5.length:Int) then (if 0≤(wrap64 ((wrap64 (4 * x8)) - 2)) then (if (wrap64 ((wrap64 (4 * x8)) - 2))<(x5.length:Int) then (if 0≤(wrap64 ((wrap64 (4 * x8)) - 1)) then (if (wrap64 ((wrap64 (4 * x8)) - 1))<(x5.length:Int) then ((some (([rd x5 (wrap64 ((wrap64 (4 * x8)) - 4)),rd x5 (wrap64 ((wrap64 (4 * x8)) - 3)),rd x5 (wrap64 ((wrap64 (4 * x8)) - 2)),rd x5 (wrap64 ((wrap64 (4 * x8)) - 1))]:List Int):List Int)).bind fun y447=>(if (Int.tmod x8 4)=0 then (if 1<(y447.length:Int) then (if 0≤(rd y447 1) then (if (rd y447 1)<(x0.length:Int) then (if 2<(y447.length:Int) then (if 0≤(rd y447 2) then (if (rd y447 2)<(x0.length:Int) then (if 3<(y447.length:Int) then (if 0≤(rd y447 3) then (if (rd y447 3)<(x0.length:Int) then (if 0<(y447.length:Int) then (if 0≤(rd y447 0) then (if (rd y447 0)<(x0.length:Int) then ((legateref04_Times.f k x7 2).bind fun t461=>(legateref04_Expand.j2 k x0 x5 t461 x8 (([Go.bits .xor .u8 (rd x0 (rd y447 1)) x7,rd x0 (rd y447 2),rd x0 (rd y447 3),rd x0 (rd y447 0)]:List Int)))) else (none)) else (none)) else (none)) else (none)) else (none)) else (none)) else (none)) else (none)) else (none)) else (none)) else (none)) else (none)) else (legateref04_Expand.j2 k x0 x5 x7 x8 y447))) else (none)) else (none)) else (none)) else (none)) else (none)) else (none)) else (none)) else (none)) else (some (strOfNums x5))
def legateref04_Expand.j2:Nat→List Int→List Int→Int→Int→List Int→Option (ByteArray)
  | 0,_,_,_,_,_=>none
  | k+1,x0,x5,x7,x8,x9=>legateref04_Expand.l2 k x0 x5 x7 x8 x9 0
def legateref04_Expand.l2:Nat→List Int→List Int→Int→Int→List Int→Int→Option (ByteArray)
  | 0,_,_,_,_,_,_=>none
  | k+1,x0,x5,x7,x8,x9,x10=>if x10<4 then (if 0≤(wrap64 ((wrap64 ((wrap64 (4 * x8)) - 16))+x10)) then (if (wrap64 ((wrap64 ((wrap64 (4 * x8)) - 16))+x10))<(x5.length:Int) then (if 0≤x10 then (if x10<(x9.length:Int) then (if 0≤(wrap64 ((wrap64 (4 * x8))+x10)) then (if (wrap64 ((wrap64 (4 * x8))+x10))<(x5.length:Int) then (legateref04_Expand.l2 k x0 (x5.set ((wrap64 ((wrap64 (4 * x8))+x10)):Int).toNat (Go.bits .xor .u8 (rd x5 (wrap64 ((wrap64 ((wrap64 (4 * x8)) - 16))+x10))) (rd x9 x10))) x7 x8 x9 (wrap64 (x10+1))) else (none)) else (none)) else (none)) else (none)) else (none)) else (none)) else (legateref04_Expand.l1 k x0 x5 x7 (wrap64 (x8+1)))
end
def legateref04_Expand.f (k:Nat) (l0:List Int) (a1:ByteArray):Option (ByteArray):=if (a1.size:Int)=16 then (if 176≤281474976710656 then (legateref04_Expand.l0 k l0 a1 (List.replicate 176 0) 0) else (none)) else (some (⟨#[]⟩:ByteArray))
def legateref04_Expand.T12:Bool×List (List Nat×List Nat):=(true,[([],[]),([],[]),([1],[1]),([2],[2]),([0,3],[0,3]),([4],[4]),([],[]),([],[]),([7],[7]),([8],[8]),([6,9],[6,9]),([10],[10]),([],[]),([],[]),([13],[13]),([14],[14]),([12,15],[12,15]),([16],[16]),([],[]),([],[]),([19],[19]),([20],[20]),([18,21],[18,21]),([22],[22]),([5,11,17,23],[5,11,17,23]),([24,0,1,2,3,4,5,6,7,8,9,10,11,12,13,14,15,16,17,18,19,20,21,22,23,24],[24])])
def legateref04_Expand.B12:List Nat:=[0,0,2,6,15,31,0,0,128,384,960,1984,0,0,8192,24576,61440,126976,0,0,524288,1572864,3932160,8126464,16777215,33554431]
theorem legateref04_Expand.tab12:rtab .any (opsOf Tryd.f95 12)=legateref04_Expand.T12:=by kernel_rfl
theorem legateref04_Expand.bits12:waitsOk legateref04_Expand.T12.2 legateref04_Expand.B12=true:=by kernel_rfl
def legateref04_Expand.T14:Bool×List (List Nat×List Nat):=(true,[([],[]),([],[]),([1],[1]),([2],[2]),([0,3],[0,3]),([4],[4]),([],[]),([5,6],[5,6]),([],[]),([],[]),([9],[9]),([10],[10]),([8,11],[8,11]),([12],[12]),([],[]),([],[]),([15],[15]),([16],[16]),([14,17],[14,17]),([18],[18]),([],[]),([],[]),([21],[21]),([22],[22]),([20,23],[20,23]),([24],[24]),([7,13,19,25],[7,13,19,25]),([26,0,1,2,3,4,5,6,7,8,9,10,11,12,13,14,15,16,17,18,19,20,21,22,23,24,25,26],[1,9,15,21,26])])
def legateref04_Expand.B14:List Nat:=[0,0,2,6,15,31,0,127,0,0,512,1536,3840,7936,0,0,32768,98304,245760,507904,0,0,2097152,6291456,15728640,32505856,67108863,134217727]
theorem legateref04_Expand.tab14:rtab .any (opsOf Tryd.f95 14)=legateref04_Expand.T14:=by kernel_rfl
theorem legateref04_Expand.bits14:waitsOk legateref04_Expand.T14.2 legateref04_Expand.B14=true:=by kernel_rfl
def legateref04_Expand.T19:Bool×List (List Nat×List Nat):=(true,[([],[]),([],[]),([1],[1]),([],[]),([2,3],[2,3]),([],[]),([],[]),([6],[6]),([7],[7]),([],[]),([8,9],[8,9]),([5,10],[5,10]),([11],[11]),([],[]),([],[]),([13,14],[13,14]),([15],[15]),([12,16],[12,16]),([0,4,0,1,2,3,4,5,6,7,8,9,10,11,12,13,14,15,16,17],[0,4]),([18,17,0,1,2,3,4,5,6,7,8,9,10,11,12,13,14,15,16,17],[17,18])])
def legateref04_Expand.B19:List Nat:=[0,0,2,0,14,0,0,64,192,0,960,2016,4064,0,0,24576,57344,131040,262143,524287]
theorem legateref04_Expand.tab19:rtab .any (opsOf Tryd.f95 19)=legateref04_Expand.T19:=by kernel_rfl
theorem legateref04_Expand.bits19:waitsOk legateref04_Expand.T19.2 legateref04_Expand.B19=true:=by kernel_rfl
set_option maxHeartbeats 8000000 in
set_option maxRecDepth 100000 in
theorem legateref04_Expand.calls (k:Nat) (A0:Option Addr) (c0:Nat) (l0:List Int) (a1:ByteArray) (r:ByteArray) (w:World) (hr0:Kd.C (Kd.int .u8) w A0 l0.length l0) (hc0:l0.length≤c0) (h:legateref04_Expand.f k l0 a1=some r) :
 Calls Tryd.prog 95 #[.slice A0 l0.length c0,.string a1] w fun e w'=>e=.returned (.string r)∧Below w.heap.size w w':=by
 have HR0:=zK hr0
 have HC0:=zK hc0
 clear hr0 hc0
 have HB:=zK (Below.refl w.heap.size w)
 have H:(if (a1.size:Int)=16 then (if 176≤281474976710656 then (legateref04_Expand.l0 k l0 a1 (List.replicate 176 0) 0) else (none)) else (some (⟨#[]⟩:ByteArray)))=some r:=h
 clear h
 by_cases c3:(a1.size:Int)=16
 case neg =>
  rw [if_neg c3] at H
  have c3b0:((a1.size:Int) == 16)=false:=beq_eq_false_iff_ne.mpr c3
  have c3b1:((a1.size:Int) != 16)=true:=bne_iff_ne.mpr c3
  obtain rfl:=Option.some.inj H
  go_enter Tryd.func95,Tryd.ntmps95
  go_wp2
  go_ret
  exact ⟨by first|rfl|(simp [errW_none,errW_some]<;>rfl)|(simp [*,errW_none,errW_some]<;>rfl),by repeat (first|(with_reducible first|exact HB.out|apply zA|apply zN|apply zD)|exact HB.out)⟩
 rw [if_pos c3] at H
 have c3b0:((a1.size:Int) == 16)=true:=beq_iff_eq.mpr c3
 have c3b1:((a1.size:Int) != 16)=false:=bne_eq_false_iff_eq.mpr c3
 clear c3
 by_cases c4:176≤281474976710656
 case neg =>
  rw [if_neg c4] at H
  exact absurd H (by simp)
 rw [if_pos c4] at H
 have c4b0:=eq_true c4
 have c4b1:decide (176≤281474976710656)=true:=decide_eq_true c4
 clear c4
 obtain ⟨y439,hy439⟩:∃ y_:List Int,y_=(List.replicate 176 0):=⟨_,rfl⟩
 replace H:(legateref04_Expand.l0 k l0 a1 y439 0)=some r:=by first|(rw [hy439]; with_reducible exact H)|(have H2_:=(Option.bind_some _ _).symm.trans H; rw [hy439]; with_reducible exact H2_)|(have H2_:=(Option.bind_some _ _).symm.trans H; with_reducible exact H2_)|with_reducible exact H|(rw [hy439]; exact H)|exact H
 have Ny439:=zK hy439
 clear hy439
 have H':=zK H
 clear H
 go_enter Tryd.func95,Tryd.ntmps95
 go_wp2_with (first|((with_reducible refine gate_dst (N:=14) rfl ?_); refine Kd.R_make (Kd.int .u8) _ 5 rfl (N:=14) rfl 44 _ _ rfl 176 rfl rfl Tryd.underlying44 (.int .u8 0) 1 info5 rfl (by decide) (by omega) 0 (ok:=fun _=>True) (okp:=fun _=>True) rfl (fun _ hk=>hk) trivial (by omega) (by omega) (Below.refl _ _) (Nat.le_refl _) ?_; intro v440 w5 ho6 hb hg_ hnew_; clear hg_ hnew_; (first|rw [← Ny439.out] at ho6|(simp only [Int.reduceToNat] at ho6; rw [← Ny439.out] at ho6)); have n0_:=zK (Kd.R_lower ho6 (below_size (by repeat (first|(with_reducible first|exact HB.out|apply zA|apply zN|apply zD)|exact HB.out)))); have n1_:=zK (below_step (by repeat (first|(with_reducible first|exact HB.out|apply zA|apply zN|apply zD)|exact HB.out)) hb); clear HB; have HO441:=n0_; have HB:=n1_; clear n0_ n1_; clear hb ho6))
 go_loopg [6] k (fun kq v6 w'=>∃ (x5_1:List Int) (x6_1:Int),v6=.int .i64 x6_1∧Aside0 (legateref04_Expand.l0 kq l0 a1 x5_1 x6_1=some r)∧Aside0 (kq≤k)∧Aside0 (Kd.R (Kd.int .u8) 5 w' w.heap.size (fun _=>True) v440 x5_1)∧Aside0 (Below w.heap.size w w'))
 case atStart=>exact ⟨(y439),(0),(by first|rfl|(simp; done)|(simp [*]; done)),H',⟨Nat.le_refl _⟩,⟨by (with_reducible repeat (first|apply Kd.R_alloc|apply Kd.R_drewN|apply Kd.R_drew)); exact HO441.out⟩,⟨by repeat (first|(with_reducible first|exact HB.out|apply zA|apply zN|apply zD)|exact HB.out)⟩⟩
 case round =>
  clear H'
  try clear p2
  try clear c3
  try clear c3b0
  try clear c3b1
  try clear c4
  try clear c4b0
  try clear c4b1
  obtain ⟨x5_1,x6_1,rfl,HA,HK1,HO_5,HB⟩:=hrel
  cases gk with
  | zero=>exact absurd HA.out (by simp [legateref04_Expand.l0])
  | succ k1 =>
   have H:=HA.out
   clear HA
   simp only [legateref04_Expand.l0] at H
   by_cases c7:x6_1<16
   case pos =>
    rw [if_pos c7] at H
    have c7b0:decide (x6_1<16)=true:=decide_eq_true c7
    clear c7
    by_cases c8:0≤x6_1
    case neg =>
     rw [if_neg c8] at H
     exact absurd H (by simp)
    rw [if_pos c8] at H
    have c8b0:decide (0≤x6_1)=true:=decide_eq_true c8
    clear c8
    by_cases c9:x6_1<(a1.size:Int)
    case neg =>
     rw [if_neg c9] at H
     exact absurd H (by simp)
    rw [if_pos c9] at H
    have c9b0:decide (x6_1<(a1.size:Int))=true:=decide_eq_true c9
    clear c9
    by_cases c11:x6_1<(x5_1.length:Int)
    case neg =>
     rw [if_neg c11] at H
     exact absurd H (by simp)
    rw [if_pos c11] at H
    have c11b0:decide (x6_1<(x5_1.length:Int))=true:=decide_eq_true c11
    clear c11
    obtain ⟨y442,hy442⟩:∃ y_:List Int,y_=(x5_1.set (x6_1:Int).toNat (bt a1 x6_1)):=⟨_,rfl⟩
    replace H:(legateref04_Expand.l0 k1 l0 a1 y442 (wrap64 (x6_1+1)))=some r:=by first|(rw [hy442]; with_reducible exact H)|(have H2_:=(Option.bind_some _ _).symm.trans H; rw [hy442]; with_reducible exact H2_)|(have H2_:=(Option.bind_some _ _).symm.trans H; with_reducible exact H2_)|with_reducible exact H|(rw [hy442]; exact H)|exact H
    have Ny442:=zK hy442
    clear hy442
    have H':=zK H
    clear H
    have p10:0≤(x6_1:Int):=of_decide_eq_true (by first|(with_reducible assumption)|assumption)
    have q10:x6_1<(a1.size:Int):=of_decide_eq_true (by first|(with_reducible assumption)|assumption)
    have hx10:=bt_at a1 x6_1
    replace p10:=eq_true p10
    replace q10:=eq_true q10
    have p12:0≤(x6_1:Int):=of_decide_eq_true (by first|(with_reducible assumption)|assumption)
    have q12:(x6_1:Int)<((x5_1.length:Int):Int):=of_decide_eq_true (by first|(with_reducible assumption)|assumption)
    obtain ⟨go12,co12,eo12,gb12,gl12,cl12,HG12⟩:=Kd.R_form HO_5.out (by omega)
    (first|cases eo12|(injection eo12 with ea_ en_ ec_; (first|subst ea_|(injection ea_ with ea_; subst ea_)); subst ec_; clear en_))
    have GB12:=zK gb12
    have GG12:=zK HG12
    clear gb12 gl12 HG12
    obtain ⟨hx12_0,hf12_0⟩:=Kd.R_celln 0 HO_5.out (x6_1:Int) p12 q12
    replace p12:=eq_true p12
    replace q12:=eq_true q12
    have HP13:=Kd.R_putg HO_5.out (x6_1:Int) (bt a1 x6_1)
    go_wp2_with (first|((with_reducible refine gate_store (t:=5) (p:=24) rfl ?_); refine store_event (t:=5) (p:=24) (v:=?vo_w14) (w1:=(wr.setCell ⟨go12,(x6_1:Int).toNat,none⟩ (.int .u8 (bt a1 x6_1)))) ?hg ?ho ?hn ?hr ?_; (case ho=>rfl); (case hg=>rfl); (case hn=>rfl); (case hr=>first|(go_simp; done)|(go_simp; rfl)); intro w14 hw; have hg:wr.grownBy w14 (some go12):=(by rw [hw]; exact HP13.2); have hp_:Kd.R (Kd.int .u8) 5 w14 w.heap.size (fun _=>True) (.slice (some ⟨go12,0,none⟩) x5_1.length co12) y442:=(by rw [hw,Ny442.out]; exact HP13.1); clear HP13; have n0_:=zK (hp_); have n1_:=zK ((by rw [hw]; exact below_set (HB.out) GB12.out:Below w.heap.size w w14)); clear HO_5; clear HB; have HO_5:=n0_; have HB:=n1_; clear n0_ n1_; clear hg hw hp_))
    go_roundg k1
    case measure=>have:=HK1.out; omega
    case rel=>exact ⟨(y442),(wrap64 (x6_1+1)),(by first|rfl|(simp; done)|(simp [*]; done)),H',⟨by have:=HK1.out; omega⟩,⟨by (with_reducible repeat (first|apply Kd.R_alloc|apply Kd.R_drewN|apply Kd.R_drew)); exact HO_5.out⟩,⟨by repeat (first|(with_reducible first|exact HB.out|apply zA|apply zN|apply zD)|exact HB.out)⟩⟩
   rw [if_neg c7] at H
   have c7b0:decide (x6_1<16)=false:=decide_eq_false c7
   clear c7
   have H':=zK H
   clear H
   go_wp2
   go_loopg [7,8] k1 (fun kq v7 v8 w'=>∃ (x5_2:List Int) (x7_2:Int) (x8_2:Int),v7=.int .u8 x7_2∧v8=.int .i64 x8_2∧Aside0 (legateref04_Expand.l1 kq l0 x5_2 x7_2 x8_2=some r)∧Aside0 (kq≤k1)∧Aside0 (Kd.R (Kd.int .u8) 5 w' w.heap.size (fun _=>True) v440 x5_2)∧Aside0 (Below w.heap.size w w'))
   case atStart=>exact ⟨(x5_1),(1),(4),(by first|rfl|(simp; done)|(simp [*]; done)),(by first|rfl|(simp; done)|(simp [*]; done)),H',⟨Nat.le_refl _⟩,⟨by (with_reducible repeat (first|apply Kd.R_alloc|apply Kd.R_drewN|apply Kd.R_drew)); exact HO_5.out⟩,⟨by repeat (first|(with_reducible first|exact HB.out|apply zA|apply zN|apply zD)|exact HB.out)⟩⟩
   case round =>
    clear H'
    try clear c1
    try clear p1
    try clear q1
    try clear hx1
    try clear p2
    try clear c3
    try clear c3b0
    try clear c3b1
    try clear c4
    try clear c4b0
    try clear c4b1
    try clear p6
    try clear c7
    try clear c7b0
    try clear c8
    try clear c8b0
    try clear c9
    try clear c9b0
    try clear p10
    try clear q10
    try clear hx10
    try clear c11
    try clear c11b0
    try clear p12
    try clear q12
    try clear hx12
    try clear hf12
    try clear hx12_0
    try clear p10
    try clear p12
    try clear p2
    try clear q10
    try clear q12
    obtain ⟨x5_2,x7_2,x8_2,rfl,rfl,HA,HK2,HO_5,HB⟩:=hrel
    cases gk with
    | zero=>exact absurd HA.out (by simp [legateref04_Expand.l1])
    | succ k2 =>
     have H:=HA.out
     clear HA
     simp only [legateref04_Expand.l1] at H
     by_cases c15:x8_2<44
     case neg =>
      rw [if_neg c15] at H
      have c15b0:decide (x8_2<44)=false:=decide_eq_false c15
      clear c15
      obtain rfl:=Option.some.inj H
      have hcv64:=own_string (P:=Tryd.prog) Tryd.underlying44 Tryd.underlying5 Tryd.underlying9 (Kd.own_of_R HO_5.out)
      go_wp2
      go_ret
      exact ⟨by first|rfl|(simp [errW_none,errW_some]<;>rfl)|(simp [*,errW_none,errW_some]<;>rfl),by repeat (first|(with_reducible first|exact HB.out|apply zA|apply zN|apply zD)|exact HB.out)⟩
     rw [if_pos c15] at H
     have c15b0:decide (x8_2<44)=true:=decide_eq_true c15
     clear c15
     obtain ⟨ji16,hji16⟩:∃ j_:Int,(wrap64 ((wrap64 (4 * x8_2)) - 4))=j_:=⟨_,rfl⟩
     replace H:(if 0≤(ji16) then (if (ji16)<(x5_2.length:Int) then (if 0≤(wrap64 ((wrap64 (4 * x8_2)) - 3)) then (if (wrap64 ((wrap64 (4 * x8_2)) - 3))<(x5_2.length:Int) then (if 0≤(wrap64 ((wrap64 (4 * x8_2)) - 2)) then (if (wrap64 ((wrap64 (4 * x8_2)) - 2))<(x5_2.length:Int) then (if 0≤(wrap64 ((wrap64 (4 * x8_2)) - 1)) then (if (wrap64 ((wrap64 (4 * x8_2)) - 1))<(x5_2.length:Int) then ((some (([rd x5_2 (ji16),rd x5_2 (wrap64 ((wrap64 (4 * x8_2)) - 3)),rd x5_2 (wrap64 ((wrap64 (4 * x8_2)) - 2)),rd x5_2 (wrap64 ((wrap64 (4 * x8_2)) - 1))]:List Int):List Int)).bind fun y447=>(if (Int.tmod x8_2 4)=0 then (if 1<(y447.length:Int) then (if 0≤(rd y447 1) then (if (rd y447 1)<(l0.length:Int) then (if 2<(y447.length:Int) then (if 0≤(rd y447 2) then (if (rd y447 2)<(l0.length:Int) then (if 3<(y447.length:Int) then (if 0≤(rd y447 3) then (if (rd y447 3)<(l0.length:Int) then (if 0<(y447.length:Int) then (if 0≤(rd y447 0) then (if (rd y447 0)<(l0.length:Int) then ((legateref04_Times.f k2 x7_2 2).bind fun t461=>(legateref04_Expand.j2 k2 l0 x5_2 t461 x8_2 (([Go.bits .xor .u8 (rd l0 (rd y447 1)) x7_2,rd l0 (rd y447 2),rd l0 (rd y447 3),rd l0 (rd y447 0)]:List Int)))) else (none)) else (none)) else (none)) else (none)) else (none)) else (none)) else (none)) else (none)) else (none)) else (none)) else (none)) else (none)) else (legateref04_Expand.j2 k2 l0 x5_2 x7_2 x8_2 y447))) else (none)) else (none)) else (none)) else (none)) else (none)) else (none)) else (none)) else (none))=some r:=by first|(rw [hji16] at H; exact H)|(simp only [hji16] at H ⊢; exact H)
     have hji16w:(IntKind.i64.wrap ((wrap64 (4 * x8_2)) - 4))=ji16:=(i64_w _).trans hji16
     by_cases c17:0≤(ji16)
     case neg =>
      rw [if_neg c17] at H
      exact absurd H (by simp)
     rw [if_pos c17] at H
     have c17b0:decide (0≤(ji16))=true:=decide_eq_true c17
     clear c17
     by_cases c18:(ji16)<(x5_2.length:Int)
     case neg =>
      rw [if_neg c18] at H
      exact absurd H (by simp)
     rw [if_pos c18] at H
     have c18b0:decide ((ji16)<(x5_2.length:Int))=true:=decide_eq_true c18
     clear c18
     obtain ⟨ji19,hji19⟩:∃ j_:Int,(wrap64 ((wrap64 (4 * x8_2)) - 3))=j_:=⟨_,rfl⟩
     replace H:(if 0≤(ji19) then (if (ji19)<(x5_2.length:Int) then (if 0≤(wrap64 ((wrap64 (4 * x8_2)) - 2)) then (if (wrap64 ((wrap64 (4 * x8_2)) - 2))<(x5_2.length:Int) then (if 0≤(wrap64 ((wrap64 (4 * x8_2)) - 1)) then (if (wrap64 ((wrap64 (4 * x8_2)) - 1))<(x5_2.length:Int) then ((some (([rd x5_2 (ji16),rd x5_2 (ji19),rd x5_2 (wrap64 ((wrap64 (4 * x8_2)) - 2)),rd x5_2 (wrap64 ((wrap64 (4 * x8_2)) - 1))]:List Int):List Int)).bind fun y447=>(if (Int.tmod x8_2 4)=0 then (if 1<(y447.length:Int) then (if 0≤(rd y447 1) then (if (rd y447 1)<(l0.length:Int) then (if 2<(y447.length:Int) then (if 0≤(rd y447 2) then (if (rd y447 2)<(l0.length:Int) then (if 3<(y447.length:Int) then (if 0≤(rd y447 3) then (if (rd y447 3)<(l0.length:Int) then (if 0<(y447.length:Int) then (if 0≤(rd y447 0) then (if (rd y447 0)<(l0.length:Int) then ((legateref04_Times.f k2 x7_2 2).bind fun t461=>(legateref04_Expand.j2 k2 l0 x5_2 t461 x8_2 (([Go.bits .xor .u8 (rd l0 (rd y447 1)) x7_2,rd l0 (rd y447 2),rd l0 (rd y447 3),rd l0 (rd y447 0)]:List Int)))) else (none)) else (none)) else (none)) else (none)) else (none)) else (none)) else (none)) else (none)) else (none)) else (none)) else (none)) else (none)) else (legateref04_Expand.j2 k2 l0 x5_2 x7_2 x8_2 y447))) else (none)) else (none)) else (none)) else (none)) else (none)) else (none))=some r:=by first|(rw [hji19] at H; exact H)|(simp only [hji19] at H ⊢; exact H)
     have hji19w:(IntKind.i64.wrap ((wrap64 (4 * x8_2)) - 3))=ji19:=(i64_w _).trans hji19
     by_cases c20:0≤(ji19)
     case neg =>
      rw [if_neg c20] at H
      exact absurd H (by simp)
     rw [if_pos c20] at H
     have c20b0:decide (0≤(ji19))=true:=decide_eq_true c20
     clear c20
     by_cases c21:(ji19)<(x5_2.length:Int)
     case neg =>
      rw [if_neg c21] at H
      exact absurd H (by simp)
     rw [if_pos c21] at H
     have c21b0:decide ((ji19)<(x5_2.length:Int))=true:=decide_eq_true c21
     clear c21
     obtain ⟨ji22,hji22⟩:∃ j_:Int,(wrap64 ((wrap64 (4 * x8_2)) - 2))=j_:=⟨_,rfl⟩
     replace H:(if 0≤(ji22) then (if (ji22)<(x5_2.length:Int) then (if 0≤(wrap64 ((wrap64 (4 * x8_2)) - 1)) then (if (wrap64 ((wrap64 (4 * x8_2)) - 1))<(x5_2.length:Int) then ((some (([rd x5_2 (ji16),rd x5_2 (ji19),rd x5_2 (ji22),rd x5_2 (wrap64 ((wrap64 (4 * x8_2)) - 1))]:List Int):List Int)).bind fun y447=>(if (Int.tmod x8_2 4)=0 then (if 1<(y447.length:Int) then (if 0≤(rd y447 1) then (if (rd y447 1)<(l0.length:Int) then (if 2<(y447.length:Int) then (if 0≤(rd y447 2) then (if (rd y447 2)<(l0.length:Int) then (if 3<(y447.length:Int) then (if 0≤(rd y447 3) then (if (rd y447 3)<(l0.length:Int) then (if 0<(y447.length:Int) then (if 0≤(rd y447 0) then (if (rd y447 0)<(l0.length:Int) then ((legateref04_Times.f k2 x7_2 2).bind fun t461=>(legateref04_Expand.j2 k2 l0 x5_2 t461 x8_2 (([Go.bits .xor .u8 (rd l0 (rd y447 1)) x7_2,rd l0 (rd y447 2),rd l0 (rd y447 3),rd l0 (rd y447 0)]:List Int)))) else (none)) else (none)) else (none)) else (none)) else (none)) else (none)) else (none)) else (none)) else (none)) else (none)) else (none)) else (none)) else (legateref04_Expand.j2 k2 l0 x5_2 x7_2 x8_2 y447))) else (none)) else (none)) else (none)) else (none))=some r:=by first|(rw [hji22] at H; exact H)|(simp only [hji22] at H ⊢; exact H)
     have hji22w:(IntKind.i64.wrap ((wrap64 (4 * x8_2)) - 2))=ji22:=(i64_w _).trans hji22
     by_cases c23:0≤(ji22)
     case neg =>
      rw [if_neg c23] at H
      exact absurd H (by simp)
     rw [if_pos c23] at H
     have c23b0:decide (0≤(ji22))=true:=decide_eq_true c23
     clear c23
     by_cases c24:(ji22)<(x5_2.length:Int)
     case neg =>
      rw [if_neg c24] at H
      exact absurd H (by simp)
     rw [if_pos c24] at H
     have c24b0:decide ((ji22)<(x5_2.length:Int))=true:=decide_eq_true c24
     clear c24
     obtain ⟨ji25,hji25⟩:∃ j_:Int,(wrap64 ((wrap64 (4 * x8_2)) - 1))=j_:=⟨_,rfl⟩
     replace H:(if 0≤(ji25) then (if (ji25)<(x5_2.length:Int) then ((some (([rd x5_2 (ji16),rd x5_2 (ji19),rd x5_2 (ji22),rd x5_2 (ji25)]:List Int):List Int)).bind fun y447=>(if (Int.tmod x8_2 4)=0 then (if 1<(y447.length:Int) then (if 0≤(rd y447 1) then (if (rd y447 1)<(l0.length:Int) then (if 2<(y447.length:Int) then (if 0≤(rd y447 2) then (if (rd y447 2)<(l0.length:Int) then (if 3<(y447.length:Int) then (if 0≤(rd y447 3) then (if (rd y447 3)<(l0.length:Int) then (if 0<(y447.length:Int) then (if 0≤(rd y447 0) then (if (rd y447 0)<(l0.length:Int) then ((legateref04_Times.f k2 x7_2 2).bind fun t461=>(legateref04_Expand.j2 k2 l0 x5_2 t461 x8_2 (([Go.bits .xor .u8 (rd l0 (rd y447 1)) x7_2,rd l0 (rd y447 2),rd l0 (rd y447 3),rd l0 (rd y447 0)]:List Int)))) else (none)) else (none)) else (none)) else (none)) else (none)) else (none)) else (none)) else (none)) else (none)) else (none)) else (none)) else (none)) else (legateref04_Expand.j2 k2 l0 x5_2 x7_2 x8_2 y447))) else (none)) else (none))=some r:=by first|(rw [hji25] at H; exact H)|(simp only [hji25] at H ⊢; exact H)
     have hji25w:(IntKind.i64.wrap ((wrap64 (4 * x8_2)) - 1))=ji25:=(i64_w _).trans hji25
     by_cases c26:0≤(ji25)
     case neg =>
      rw [if_neg c26] at H
      exact absurd H (by simp)
     rw [if_pos c26] at H
     have c26b0:decide (0≤(ji25))=true:=decide_eq_true c26
     clear c26
     by_cases c27:(ji25)<(x5_2.length:Int)
     case neg =>
      rw [if_neg c27] at H
      exact absurd H (by simp)
     rw [if_pos c27] at H
     have c27b0:decide ((ji25)<(x5_2.length:Int))=true:=decide_eq_true c27
     clear c27
     obtain ⟨y447,hy447⟩:∃ y_:List Int,y_=(([rd x5_2 (ji16),rd x5_2 (ji19),rd x5_2 (ji22),rd x5_2 (ji25)]:List Int)):=⟨_,rfl⟩
     replace H:(if (Int.tmod x8_2 4)=0 then (if 1<(y447.length:Int) then (if 0≤(rd y447 1) then (if (rd y447 1)<(l0.length:Int) then (if 2<(y447.length:Int) then (if 0≤(rd y447 2) then (if (rd y447 2)<(l0.length:Int) then (if 3<(y447.length:Int) then (if 0≤(rd y447 3) then (if (rd y447 3)<(l0.length:Int) then (if 0<(y447.length:Int) then (if 0≤(rd y447 0) then (if (rd y447 0)<(l0.length:Int) then ((legateref04_Times.f k2 x7_2 2).bind fun t461=>(legateref04_Expand.j2 k2 l0 x5_2 t461 x8_2 (([Go.bits .xor .u8 (rd l0 (rd y447 1)) x7_2,rd l0 (rd y447 2),rd l0 (rd y447 3),rd l0 (rd y447 0)]:List Int)))) else (none)) else (none)) else (none)) else (none)) else (none)) else (none)) else (none)) else (none)) else (none)) else (none)) else (none)) else (none)) else (legateref04_Expand.j2 k2 l0 x5_2 x7_2 x8_2 y447))=some r:=by first|(rw [hy447]; with_reducible exact H)|(have H2_:=(Option.bind_some _ _).symm.trans H; rw [hy447]; with_reducible exact H2_)|(have H2_:=(Option.bind_some _ _).symm.trans H; with_reducible exact H2_)|with_reducible exact H|(rw [hy447]; exact H)|exact H
     have Ny447:=zK hy447
     clear hy447
     have HC28:=zK H
     clear H
     try go_wp2
     have n0_:=zK (Kd.R_drew HO_5.out)
     have n1_:=zK (zD HB.out)
     clear HO_5
     clear HB
     have HO_5:=n0_
     have HB:=n1_
     clear n0_ n1_
     obtain ⟨Ao30,co30,eo30⟩:=Kd.R_slice HO_5.out
     (first|subst eo30|(injection eo30 with f1_ f2_ f3_; have f4_:=f1_.symm; have f5_:=f3_.symm; clear f1_ f2_ f3_; subst f4_; subst f5_))
     have p443:0≤((ji16):Int):=of_decide_eq_true (by first|(with_reducible assumption)|assumption)
     have q443:(ji16)<(x5_2.length:Int):=of_decide_eq_true (by first|(with_reducible assumption)|assumption)
     obtain ⟨ad443,e443,hx443_0⟩:=Kd.at_int (Kd.R_reads' HO_5.out).2.2 (ji16) p443 q443
     cases e443
     replace p443:=eq_true p443
     replace q443:=eq_true q443
     have p444:0≤((ji19):Int):=of_decide_eq_true (by first|(with_reducible assumption)|assumption)
     have q444:(ji19)<(x5_2.length:Int):=of_decide_eq_true (by first|(with_reducible assumption)|assumption)
     obtain ⟨ad444,e444,hx444_0⟩:=Kd.at_int (Kd.R_reads' HO_5.out).2.2 (ji19) p444 q444
     obtain rfl:ad443=ad444:=(by injection e444)
     replace p444:=eq_true p444
     replace q444:=eq_true q444
     have p445:0≤((ji22):Int):=of_decide_eq_true (by first|(with_reducible assumption)|assumption)
     have q445:(ji22)<(x5_2.length:Int):=of_decide_eq_true (by first|(with_reducible assumption)|assumption)
     obtain ⟨ad445,e445,hx445_0⟩:=Kd.at_int (Kd.R_reads' HO_5.out).2.2 (ji22) p445 q445
     obtain rfl:ad443=ad445:=(by injection e445)
     replace p445:=eq_true p445
     replace q445:=eq_true q445
     have p446:0≤((ji25):Int):=of_decide_eq_true (by first|(with_reducible assumption)|assumption)
     have q446:(ji25)<(x5_2.length:Int):=of_decide_eq_true (by first|(with_reducible assumption)|assumption)
     obtain ⟨ad446,e446,hx446_0⟩:=Kd.at_int (Kd.R_reads' HO_5.out).2.2 (ji25) p446 q446
     obtain rfl:ad443=ad446:=(by injection e446)
     replace p446:=eq_true p446
     replace q446:=eq_true q446
     refine start_ (n:=26) (S:=fun w'=>w'.cell? (ad443.add ((ji16)).toNat)=some (.int .u8 (rd x5_2 (ji16)))∧w'.cell? (ad443.add ((ji19)).toNat)=some (.int .u8 (rd x5_2 (ji19)))∧w'.cell? (ad443.add ((ji22)).toNat)=some (.int .u8 (rd x5_2 (ji22)))∧w'.cell? (ad443.add ((ji25)).toNat)=some (.int .u8 (rd x5_2 (ji25)))) (ds:=[]) #[G,G,G,G,G,G,G,G,G,G,G,G,G,G,G,G,G,G,G,G,G,G,G,G,G,G] (by kernel_rfl) rfl rfl ⟨hx443_0,hx444_0,hx445_0,hx446_0⟩ (fun hHeld=>?_); refine with_tabW legateref04_Expand.tab12 legateref04_Expand.bits12 (fun HT_ HW_=>?_)
     generalize wr.drew=w29 at HO_5 HB hx443_0 hx444_0 hx445_0 hx446_0 hHeld ⊢
     refine zq 0 (some 29) ?_ #[O,G,G,G,G,G,G,G,G,G,G,G,G,G,G,G,G,G,G,G,G,G,G,G,G,G] rfl rfl (any_of HT_.out (by kernel_rfl)) (fun _ _ _ h=>h) (Or.inl ⟨by rfl,?_⟩) ?_ ?_ ?_
     rotate_left;(intro w';go_simp;with_reducible rfl);rotate_left;(simp only [Act.put,zp];rfl)
     refine zq 1 (some 30) ?_ #[O,O,G,G,G,G,G,G,G,G,G,G,G,G,G,G,G,G,G,G,G,G,G,G,G,G] rfl rfl (any_of HT_.out (by kernel_rfl)) (fun _ _ _ h=>h) (Or.inl ⟨by rfl,?_⟩) ?_ ?_ ?_
     rotate_left;(intro w';go_simp;with_reducible rfl);rotate_left;(simp only [Act.put,zp];rfl)
     refine zq 2 (some 31) ?_ #[O,O,O,G,G,G,G,G,G,G,G,G,G,G,G,G,G,G,G,G,G,G,G,G,G,G] rfl rfl (any_of HT_.out (by kernel_rfl)) (fun _ _ _ h=>h) (Or.inl ⟨by rfl,?_⟩) ?_ ?_ ?_
     rotate_left;(intro w';go_simp;with_reducible rfl);rotate_left;(simp only [Act.put,zp];rfl)
     refine zq 3 (some 32) ?_ #[O,O,O,O,G,G,G,G,G,G,G,G,G,G,G,G,G,G,G,G,G,G,G,G,G,G] rfl rfl (any_of HT_.out (by kernel_rfl)) (fun _ _ _ h=>h) (Or.inl ⟨by rfl,?_⟩) ?_ ?_ ?_
     rotate_left;(intro w';go_simp;with_reducible rfl);rotate_left;(simp only [Act.put,zp];rfl)
     refine zq 4 (some 33) ?_ #[O,O,O,O,O,G,G,G,G,G,G,G,G,G,G,G,G,G,G,G,G,G,G,G,G,G] rfl rfl (any_of HT_.out (by kernel_rfl)) (fun _ _ _ h=>h) (Or.inl ⟨by rfl,?_⟩) ?_ ?_ ?_
     rotate_left;(intro w';go_simp;with_reducible rfl);rotate_left;(simp only [Act.put,zp];rfl)
     refine zq 6 (some 35) ?_ #[O,O,O,O,O,G,O,G,G,G,G,G,G,G,G,G,G,G,G,G,G,G,G,G,G,G] rfl rfl (any_of HT_.out (by kernel_rfl)) (fun _ _ _ h=>h) (Or.inl ⟨by rfl,?_⟩) ?_ ?_ ?_
     rotate_left;(intro w';go_simp;with_reducible rfl);rotate_left;(simp only [Act.put,zp];rfl)
     refine zq 7 (some 36) ?_ #[O,O,O,O,O,G,O,O,G,G,G,G,G,G,G,G,G,G,G,G,G,G,G,G,G,G] rfl rfl (any_of HT_.out (by kernel_rfl)) (fun _ _ _ h=>h) (Or.inl ⟨by rfl,?_⟩) ?_ ?_ ?_
     rotate_left;(intro w';go_simp;with_reducible rfl);rotate_left;(simp only [Act.put,zp];rfl)
     refine zq 8 (some 37) ?_ #[O,O,O,O,O,G,O,O,O,G,G,G,G,G,G,G,G,G,G,G,G,G,G,G,G,G] rfl rfl (any_of HT_.out (by kernel_rfl)) (fun _ _ _ h=>h) (Or.inl ⟨by rfl,?_⟩) ?_ ?_ ?_
     rotate_left;(intro w';go_simp;with_reducible rfl);rotate_left;(simp only [Act.put,zp];rfl)
     refine zq 9 (some 38) ?_ #[O,O,O,O,O,G,O,O,O,O,G,G,G,G,G,G,G,G,G,G,G,G,G,G,G,G] rfl rfl (any_of HT_.out (by kernel_rfl)) (fun _ _ _ h=>h) (Or.inl ⟨by rfl,?_⟩) ?_ ?_ ?_
     rotate_left;(intro w';go_simp;with_reducible rfl);rotate_left;(simp only [Act.put,zp];rfl)
     refine zq 10 (some 39) ?_ #[O,O,O,O,O,G,O,O,O,O,O,G,G,G,G,G,G,G,G,G,G,G,G,G,G,G] rfl rfl (any_of HT_.out (by kernel_rfl)) (fun _ _ _ h=>h) (Or.inl ⟨by rfl,?_⟩) ?_ ?_ ?_
     rotate_left;(intro w';go_simp;with_reducible rfl);rotate_left;(simp only [Act.put,zp];rfl)
     refine zq 12 (some 41) ?_ #[O,O,O,O,O,G,O,O,O,O,O,G,O,G,G,G,G,G,G,G,G,G,G,G,G,G] rfl rfl (any_of HT_.out (by kernel_rfl)) (fun _ _ _ h=>h) (Or.inl ⟨by rfl,?_⟩) ?_ ?_ ?_
     rotate_left;(intro w';go_simp;with_reducible rfl);rotate_left;(simp only [Act.put,zp];rfl)
     refine zq 13 (some 42) ?_ #[O,O,O,O,O,G,O,O,O,O,O,G,O,O,G,G,G,G,G,G,G,G,G,G,G,G] rfl rfl (any_of HT_.out (by kernel_rfl)) (fun _ _ _ h=>h) (Or.inl ⟨by rfl,?_⟩) ?_ ?_ ?_
     rotate_left;(intro w';go_simp;with_reducible rfl);rotate_left;(simp only [Act.put,zp];rfl)
     refine zq 14 (some 43) ?_ #[O,O,O,O,O,G,O,O,O,O,O,G,O,O,O,G,G,G,G,G,G,G,G,G,G,G] rfl rfl (any_of HT_.out (by kernel_rfl)) (fun _ _ _ h=>h) (Or.inl ⟨by rfl,?_⟩) ?_ ?_ ?_
     rotate_left;(intro w';go_simp;with_reducible rfl);rotate_left;(simp only [Act.put,zp];rfl)
     refine zq 15 (some 44) ?_ #[O,O,O,O,O,G,O,O,O,O,O,G,O,O,O,O,G,G,G,G,G,G,G,G,G,G] rfl rfl (any_of HT_.out (by kernel_rfl)) (fun _ _ _ h=>h) (Or.inl ⟨by rfl,?_⟩) ?_ ?_ ?_
     rotate_left;(intro w';go_simp;with_reducible rfl);rotate_left;(simp only [Act.put,zp];rfl)
     refine zq 16 (some 45) ?_ #[O,O,O,O,O,G,O,O,O,O,O,G,O,O,O,O,O,G,G,G,G,G,G,G,G,G] rfl rfl (any_of HT_.out (by kernel_rfl)) (fun _ _ _ h=>h) (Or.inl ⟨by rfl,?_⟩) ?_ ?_ ?_
     rotate_left;(intro w';go_simp;with_reducible rfl);rotate_left;(simp only [Act.put,zp];rfl)
     refine zq 18 (some 47) ?_ #[O,O,O,O,O,G,O,O,O,O,O,G,O,O,O,O,O,G,O,G,G,G,G,G,G,G] rfl rfl (any_of HT_.out (by kernel_rfl)) (fun _ _ _ h=>h) (Or.inl ⟨by rfl,?_⟩) ?_ ?_ ?_
     rotate_left;(intro w';go_simp;with_reducible rfl);rotate_left;(simp only [Act.put,zp];rfl)
     refine zq 19 (some 48) ?_ #[O,O,O,O,O,G,O,O,O,O,O,G,O,O,O,O,O,G,O,O,G,G,G,G,G,G] rfl rfl (any_of HT_.out (by kernel_rfl)) (fun _ _ _ h=>h) (Or.inl ⟨by rfl,?_⟩) ?_ ?_ ?_
     rotate_left;(intro w';go_simp;with_reducible rfl);rotate_left;(simp only [Act.put,zp];rfl)
     refine zq 20 (some 49) ?_ #[O,O,O,O,O,G,O,O,O,O,O,G,O,O,O,O,O,G,O,O,O,G,G,G,G,G] rfl rfl (any_of HT_.out (by kernel_rfl)) (fun _ _ _ h=>h) (Or.inl ⟨by rfl,?_⟩) ?_ ?_ ?_
     rotate_left;(intro w';go_simp;with_reducible rfl);rotate_left;(simp only [Act.put,zp];rfl)
     refine zq 21 (some 50) ?_ #[O,O,O,O,O,G,O,O,O,O,O,G,O,O,O,O,O,G,O,O,O,O,G,G,G,G] rfl rfl (any_of HT_.out (by kernel_rfl)) (fun _ _ _ h=>h) (Or.inl ⟨by rfl,?_⟩) ?_ ?_ ?_
     rotate_left;(intro w';go_simp;with_reducible rfl);rotate_left;(simp only [Act.put,zp];rfl)
     refine zq 22 (some 51) ?_ #[O,O,O,O,O,G,O,O,O,O,O,G,O,O,O,O,O,G,O,O,O,O,O,G,G,G] rfl rfl (any_of HT_.out (by kernel_rfl)) (fun _ _ _ h=>h) (Or.inl ⟨by rfl,?_⟩) ?_ ?_ ?_
     rotate_left;(intro w';go_simp;with_reducible rfl);rotate_left;(simp only [Act.put,zp];rfl)
     refine take_ (i:=5) (N:=some 34) (v:=?_) (a':=?_) #[O,O,O,O,O,O,O,O,O,O,O,G,O,O,O,O,O,G,O,O,O,O,O,G,G,G] rfl rfl (take_ofW HT_.out HW_.out (by kernel_rfl)) (fun _ _ _ h=>h) (Or.inl ⟨by rfl,?_⟩) hHeld ?_ ?_
     rotate_left
     ·rintro w' ⟨s0,s1,s2,s3⟩
      go_simp
      with_reducible rfl
     rotate_left
     ·simp only [Act.put,zp]
      rfl
     refine take_ (i:=11) (N:=some 40) (v:=?_) (a':=?_) #[O,O,O,O,O,O,O,O,O,O,O,O,O,O,O,O,O,G,O,O,O,O,O,G,G,G] rfl rfl (take_ofW HT_.out HW_.out (by kernel_rfl)) (fun _ _ _ h=>h) (Or.inl ⟨by rfl,?_⟩) hHeld ?_ ?_
     rotate_left
     ·rintro w' ⟨s0,s1,s2,s3⟩
      go_simp
      with_reducible rfl
     rotate_left
     ·simp only [Act.put,zp]
      rfl
     refine take_ (i:=17) (N:=some 46) (v:=?_) (a':=?_) #[O,O,O,O,O,O,O,O,O,O,O,O,O,O,O,O,O,O,O,O,O,O,O,G,G,G] rfl rfl (take_ofW HT_.out HW_.out (by kernel_rfl)) (fun _ _ _ h=>h) (Or.inl ⟨by rfl,?_⟩) hHeld ?_ ?_
     rotate_left
     ·rintro w' ⟨s0,s1,s2,s3⟩
      go_simp
      with_reducible rfl
     rotate_left
     ·simp only [Act.put,zp]
      rfl
     refine take_ (i:=23) (N:=some 52) (v:=?_) (a':=?_) #[O,O,O,O,O,O,O,O,O,O,O,O,O,O,O,O,O,O,O,O,O,O,O,O,G,G] rfl rfl (take_ofW HT_.out HW_.out (by kernel_rfl)) (fun _ _ _ h=>h) (Or.inl ⟨by rfl,?_⟩) hHeld ?_ ?_
     rotate_left
     ·rintro w' ⟨s0,s1,s2,s3⟩
      go_simp
      with_reducible rfl
     rotate_left
     ·simp only [Act.put,zp]
      rfl
     refine one_ (i:=24) (N:=some 53) #[O,O,O,O,O,O,O,O,O,O,O,O,O,O,O,O,O,O,O,O,O,O,O,O,O,G] rfl rfl (one_of HT_.out (by kernel_rfl)) (by decide) (fun K hK=>?_)
     refine Kd.R_lit_step (Kd.int .u8) _ 5 ?hg (N:=53) ?hd (xs:=([rd x5_2 (ji16),rd x5_2 (ji19),rd x5_2 (ji22),rd x5_2 (ji25)]:List Int)) (inner:=[.int .u8 (rd x5_2 (ji16)),.int .u8 (rd x5_2 (ji19)),.int .u8 (rd x5_2 (ji22)),.int .u8 (rd x5_2 (ji25))]) (ok:=fun _=>True) (okp:=fun _=>True) ?hr ?hp (fun _ hk=>hk) trivial (Below.refl _ _) (Nat.le_refl _) (by simp) ?_; (case hd=>rfl); (case hg=>rfl); (case hr=>first|(go_simp; done)|(go_simp; rfl)); (case hp=>exact (Reps.one (show Kd.M (Kd.int .u8) _ _ _ (rd x5_2 (ji16)) [.int .u8 (rd x5_2 (ji16))] from rfl) (Reps.one (show Kd.M (Kd.int .u8) _ _ _ (rd x5_2 (ji19)) [.int .u8 (rd x5_2 (ji19))] from rfl) (Reps.one (show Kd.M (Kd.int .u8) _ _ _ (rd x5_2 (ji22)) [.int .u8 (rd x5_2 (ji22))] from rfl) (Reps.one (show Kd.M (Kd.int .u8) _ _ _ (rd x5_2 (ji25)) [.int .u8 (rd x5_2 (ji25))] from rfl) (Reps.none _ _))))))
     intro v448 w31 ho32 hb hg_ hnew_
     have HS0_:=(hb.cell (World.block_lt_of_cell? _ _ (hHeld.1))).trans (hHeld.1)
     have HS1_:=(hb.cell (World.block_lt_of_cell? _ _ (hHeld.2.1))).trans (hHeld.2.1)
     have HS2_:=(hb.cell (World.block_lt_of_cell? _ _ (hHeld.2.2.1))).trans (hHeld.2.2.1)
     have HS3_:=(hb.cell (World.block_lt_of_cell? _ _ (hHeld.2.2.2))).trans (hHeld.2.2.2)
     clear hg_ hnew_
     (first|rw [← Ny447.out] at ho32|(simp only [Int.reduceToNat] at ho32; rw [← Ny447.out] at ho32))
     have n0_:=zK (Kd.R_elder' (by (with_reducible repeat (first|apply Kd.R_alloc|apply Kd.R_drewN|apply Kd.R_drew)); exact HO_5.out) (Kd.R_base ho32) hb)
     have n1_:=zK (Kd.R_lower (Kd.R_new' ho32 (Kd.R_lt (by (with_reducible repeat (first|apply Kd.R_alloc|apply Kd.R_drewN|apply Kd.R_drew)); exact HO_5.out))) (below_size (by repeat (first|(with_reducible first|exact HB.out|apply zA|apply zN|apply zD)|exact HB.out))))
     have n2_:=zK (below_step (by repeat (first|(with_reducible first|exact HB.out|apply zA|apply zN|apply zD)|exact HB.out)) hb)
     clear HO_5
     clear HB
     have HO_5:=n0_
     have HO449:=n1_
     have HB:=n2_
     clear n0_ n1_ n2_
     clear hb ho32
     refine hK.out _ _ ⟨HS0_,HS1_,HS2_,HS3_⟩ (fun hHeld=>?_)
     clear hK K
     refine norm_ (a':=?_) ?_ ?_
     rotate_left
     ·show Act.put _ (some 53) _=_
      simp only [Act.put,zp]
      rfl
     refine zq 25 (some 9) ?_ #[O,O,O,O,O,O,O,O,O,O,O,O,O,O,O,O,O,O,O,O,O,O,O,O,O,O] rfl rfl (any_of HT_.out (by kernel_rfl)) (fun _ _ _ h=>h) (Or.inl ⟨by rfl,?_⟩) ?_ ?_ ?_
     rotate_left;(intro w';go_simp;with_reducible rfl);rotate_left;(simp only [Act.put,zp];rfl)
     refine done_ (done_of HT_.out (by kernel_rfl)) ?_
     go_upto_if 56 with (fail)
     go_cut [7,9] (fun v7 v9 wc=>∃ (kq:Nat) (x7_27:Int) (x9_27:List Int),v7=.int .u8 x7_27∧Aside0 (legateref04_Expand.j2 kq l0 x5_2 x7_27 x8_2 x9_27=some r)∧Aside0 (kq≤k2)∧Aside0 (Kd.R (Kd.int .u8) 5 wc w.heap.size (fun k_=>some k_≠(v9:Value).ownBlock) (.slice (some ad443) x5_2.length co30) x5_2)∧Aside0 (Kd.R (Kd.int .u8) 5 wc w.heap.size (fun k_=>some k_≠((.slice (some ad443) x5_2.length co30):Value).ownBlock) v9 x9_27)∧Aside0 (Below w.heap.size w wc))
     case first =>
      have H:=HC28.out
      clear HC28
      by_cases c33:(Int.tmod x8_2 4)=0
      case neg =>
       rw [if_neg c33] at H
       have c33b0:((Int.tmod x8_2 4) == 0)=false:=beq_eq_false_iff_ne.mpr c33
       have c33b1:((Int.tmod x8_2 4) != 0)=true:=bne_iff_ne.mpr c33
       (first|rw [c33b0]|(simp only [i64_w,i32_w]; rw [c33b0])|skip)
       have H':=zK H
       clear H
       go_wp2
       go_meet
       case rel=>exact ⟨_,(x7_2),(y447),(by first|rfl|(simp; done)|(simp [*]; done)),H',⟨by have:=HK1.out; have:=HK2.out; first|omega|exact Nat.le_refl _⟩,⟨by (with_reducible repeat (first|apply Kd.R_alloc|apply Kd.R_drewN|apply Kd.R_drew)); exact Kd.R_mono HO_5.out (fun _ hk=>hk.2)⟩,⟨by (with_reducible repeat (first|apply Kd.R_alloc|apply Kd.R_drewN|apply Kd.R_drew)); exact Kd.R_mono HO449.out (fun _ hk=>hk.2)⟩,⟨by repeat (first|(with_reducible first|exact HB.out|apply zA|apply zN|apply zD)|exact HB.out)⟩⟩
      rw [if_pos c33] at H
      have c33b0:((Int.tmod x8_2 4) == 0)=true:=beq_iff_eq.mpr c33
      have c33b1:((Int.tmod x8_2 4) != 0)=false:=bne_eq_false_iff_eq.mpr c33
      clear c33
      (first|rw [c33b0]|(simp only [i64_w,i32_w]; rw [c33b0])|skip)
      by_cases c34:1<(y447.length:Int)
      case neg =>
       rw [if_neg c34] at H
       exact absurd H (by simp)
      rw [if_pos c34] at H
      have c34b0:decide (1<(y447.length:Int))=true:=decide_eq_true c34
      have c34b1:decide (1<y447.length)=true:=decide_eq_true (by omega)
      clear c34
      by_cases c35:0≤(rd y447 1)
      case neg =>
       rw [if_neg c35] at H
       exact absurd H (by simp)
      rw [if_pos c35] at H
      have c35b0:decide (0≤(rd y447 1))=true:=decide_eq_true c35
      clear c35
      by_cases c36:(rd y447 1)<(l0.length:Int)
      case neg =>
       rw [if_neg c36] at H
       exact absurd H (by simp)
      rw [if_pos c36] at H
      have c36b0:decide ((rd y447 1)<(l0.length:Int))=true:=decide_eq_true c36
      clear c36
      by_cases c37:2<(y447.length:Int)
      case neg =>
       rw [if_neg c37] at H
       exact absurd H (by simp)
      rw [if_pos c37] at H
      have c37b0:decide (2<(y447.length:Int))=true:=decide_eq_true c37
      have c37b1:decide (2<y447.length)=true:=decide_eq_true (by omega)
      clear c37
      by_cases c38:0≤(rd y447 2)
      case neg =>
       rw [if_neg c38] at H
       exact absurd H (by simp)
      rw [if_pos c38] at H
      have c38b0:decide (0≤(rd y447 2))=true:=decide_eq_true c38
      clear c38
      by_cases c39:(rd y447 2)<(l0.length:Int)
      case neg =>
       rw [if_neg c39] at H
       exact absurd H (by simp)
      rw [if_pos c39] at H
      have c39b0:decide ((rd y447 2)<(l0.length:Int))=true:=decide_eq_true c39
      clear c39
      by_cases c40:3<(y447.length:Int)
      case neg =>
       rw [if_neg c40] at H
       exact absurd H (by simp)
      rw [if_pos c40] at H
      have c40b0:decide (3<(y447.length:Int))=true:=decide_eq_true c40
      have c40b1:decide (3<y447.length)=true:=decide_eq_true (by omega)
      clear c40
      by_cases c41:0≤(rd y447 3)
      case neg =>
       rw [if_neg c41] at H
       exact absurd H (by simp)
      rw [if_pos c41] at H
      have c41b0:decide (0≤(rd y447 3))=true:=decide_eq_true c41
      clear c41
      by_cases c42:(rd y447 3)<(l0.length:Int)
      case neg =>
       rw [if_neg c42] at H
       exact absurd H (by simp)
      rw [if_pos c42] at H
      have c42b0:decide ((rd y447 3)<(l0.length:Int))=true:=decide_eq_true c42
      clear c42
      by_cases c43:0<(y447.length:Int)
      case neg =>
       rw [if_neg c43] at H
       exact absurd H (by simp)
      rw [if_pos c43] at H
      have c43b0:decide (0<(y447.length:Int))=true:=decide_eq_true c43
      have c43b1:decide (0<y447.length)=true:=decide_eq_true (by omega)
      clear c43
      by_cases c44:0≤(rd y447 0)
      case neg =>
       rw [if_neg c44] at H
       exact absurd H (by simp)
      rw [if_pos c44] at H
      have c44b0:decide (0≤(rd y447 0))=true:=decide_eq_true c44
      clear c44
      by_cases c45:(rd y447 0)<(l0.length:Int)
      case neg =>
       rw [if_neg c45] at H
       exact absurd H (by simp)
      rw [if_pos c45] at H
      have c45b0:decide ((rd y447 0)<(l0.length:Int))=true:=decide_eq_true c45
      clear c45
      obtain ⟨y458,hy458⟩:∃ y_:List Int,y_=(([Go.bits .xor .u8 (rd l0 (rd y447 1)) x7_2,rd l0 (rd y447 2),rd l0 (rd y447 3),rd l0 (rd y447 0)]:List Int)):=⟨_,rfl⟩
      replace H:((legateref04_Times.f k2 x7_2 2).bind fun t461=>(legateref04_Expand.j2 k2 l0 x5_2 t461 x8_2 y458))=some r:=by first|(rw [hy458]; with_reducible exact H)|(have H2_:=(Option.bind_some _ _).symm.trans H; rw [hy458]; with_reducible exact H2_)|(have H2_:=(Option.bind_some _ _).symm.trans H; with_reducible exact H2_)|with_reducible exact H|(rw [hy458]; exact H)|exact H
      have Ny458:=zK hy458
      clear hy458
      replace H:=Option.bind_eq_some_iff.mp H
      obtain ⟨t461,A460,H⟩:=H
      replace H:(legateref04_Expand.j2 k2 l0 x5_2 t461 x8_2 y458)=some r:=H
      have A46:=zK A460
      clear A460
      have H':=zK H
      clear H
      try go_wp2
      have n0_:=zK (Kd.R_drew HO_5.out)
      have n1_:=zK (Kd.R_drew HO449.out)
      have n2_:=zK (zD HB.out)
      clear HO_5
      clear HO449
      clear HB
      have HO_5:=n0_
      have HO449:=n1_
      have HB:=n2_
      clear n0_ n1_ n2_
      obtain ⟨Ao48,co48,eo48⟩:=Kd.R_slice HO449.out
      (first|subst eo48|(injection eo48 with f1_ f2_ f3_; have f4_:=f1_.symm; have f5_:=f3_.symm; clear f1_ f2_ f3_; subst f4_; subst f5_))
      have p450:0≤(1:Int):=(by omega)
      have q450:1<(y447.length:Int):=of_decide_eq_true (by first|(with_reducible assumption)|assumption)
      obtain ⟨ad450,e450,hx450_0⟩:=Kd.at_int (Kd.R_reads' HO449.out).2.2 1 p450 q450
      cases e450
      (try simp only [show (1:Int).toNat=1 from rfl,Nat.reduceMul,Nat.reduceEqDiff,Go.Addr.add,↓reduceIte] at hx450_0)
      have qi450:(1<y447.length)=True:=eq_true (by omega)
      (try rw [show ((1:Int)).toNat=1 from rfl] at hx450_0)
      replace p450:=eq_true p450
      replace q450:=eq_true q450
      have p451:0≤((rd y447 1):Int):=of_decide_eq_true (by first|(with_reducible assumption)|assumption)
      have q451:(rd y447 1)<(l0.length:Int):=of_decide_eq_true (by first|(with_reducible assumption)|assumption)
      obtain ⟨ad451,e451,hx451_0⟩:=Kd.at_int HR0.out (rd y447 1) p451 q451
      have hw451_0:=hx451_0
      cases e451
      replace hx451_0:=(HB.out.cell (World.block_lt_of_cell? w _ hx451_0)).trans hx451_0
      replace p451:=eq_true p451
      replace q451:=eq_true q451
      have p452:0≤(2:Int):=(by omega)
      have q452:2<(y447.length:Int):=of_decide_eq_true (by first|(with_reducible assumption)|assumption)
      obtain ⟨ad452,e452,hx452_0⟩:=Kd.at_int (Kd.R_reads' HO449.out).2.2 2 p452 q452
      obtain rfl:ad450=ad452:=(by injection e452)
      (try simp only [show (2:Int).toNat=2 from rfl,Nat.reduceMul,Nat.reduceEqDiff,Go.Addr.add,↓reduceIte] at hx452_0)
      have qi452:(2<y447.length)=True:=eq_true (by omega)
      (try rw [show ((2:Int)).toNat=2 from rfl] at hx452_0)
      replace p452:=eq_true p452
      replace q452:=eq_true q452
      have p453:0≤((rd y447 2):Int):=of_decide_eq_true (by first|(with_reducible assumption)|assumption)
      have q453:(rd y447 2)<(l0.length:Int):=of_decide_eq_true (by first|(with_reducible assumption)|assumption)
      obtain ⟨ad453,e453,hx453_0⟩:=Kd.at_int HR0.out (rd y447 2) p453 q453
      have hw453_0:=hx453_0
      obtain rfl:ad451=ad453:=(by injection e453)
      replace hx453_0:=(HB.out.cell (World.block_lt_of_cell? w _ hx453_0)).trans hx453_0
      replace p453:=eq_true p453
      replace q453:=eq_true q453
      have p454:0≤(3:Int):=(by omega)
      have q454:3<(y447.length:Int):=of_decide_eq_true (by first|(with_reducible assumption)|assumption)
      obtain ⟨ad454,e454,hx454_0⟩:=Kd.at_int (Kd.R_reads' HO449.out).2.2 3 p454 q454
      obtain rfl:ad450=ad454:=(by injection e454)
      (try simp only [show (3:Int).toNat=3 from rfl,Nat.reduceMul,Nat.reduceEqDiff,Go.Addr.add,↓reduceIte] at hx454_0)
      have qi454:(3<y447.length)=True:=eq_true (by omega)
      (try rw [show ((3:Int)).toNat=3 from rfl] at hx454_0)
      replace p454:=eq_true p454
      replace q454:=eq_true q454
      have p455:0≤((rd y447 3):Int):=of_decide_eq_true (by first|(with_reducible assumption)|assumption)
      have q455:(rd y447 3)<(l0.length:Int):=of_decide_eq_true (by first|(with_reducible assumption)|assumption)
      obtain ⟨ad455,e455,hx455_0⟩:=Kd.at_int HR0.out (rd y447 3) p455 q455
      have hw455_0:=hx455_0
      obtain rfl:ad451=ad455:=(by injection e455)
      replace hx455_0:=(HB.out.cell (World.block_lt_of_cell? w _ hx455_0)).trans hx455_0
      replace p455:=eq_true p455
      replace q455:=eq_true q455
      have p456:0≤(0:Int):=(by omega)
      have q456:0<(y447.length:Int):=of_decide_eq_true (by first|(with_reducible assumption)|assumption)
      obtain ⟨ad456,e456,hx456_0⟩:=Kd.at_int (Kd.R_reads' HO449.out).2.2 0 p456 q456
      obtain rfl:ad450=ad456:=(by injection e456)
      have qi456:(0<y447.length)=True:=eq_true (by omega)
      (try rw [show ((0:Int)).toNat=0 from rfl] at hx456_0)
      (try rw [Addr.add_zero'] at hx456_0)
      replace p456:=eq_true p456
      replace q456:=eq_true q456
      have p457:0≤((rd y447 0):Int):=of_decide_eq_true (by first|(with_reducible assumption)|assumption)
      have q457:(rd y447 0)<(l0.length:Int):=of_decide_eq_true (by first|(with_reducible assumption)|assumption)
      obtain ⟨ad457,e457,hx457_0⟩:=Kd.at_int HR0.out (rd y447 0) p457 q457
      have hw457_0:=hx457_0
      obtain rfl:ad451=ad457:=(by injection e457)
      replace hx457_0:=(HB.out.cell (World.block_lt_of_cell? w _ hx457_0)).trans hx457_0
      replace p457:=eq_true p457
      replace q457:=eq_true q457
      refine start_ (n:=28) (S:=fun w'=>w'.cell? ⟨ad450.block,ad450.off+1,none⟩=some (.int .u8 (rd y447 1))∧w'.cell? (ad451.add ((rd y447 1)).toNat)=some (.int .u8 (rd l0 (rd y447 1)))∧w'.cell? ⟨ad450.block,ad450.off+2,none⟩=some (.int .u8 (rd y447 2))∧w'.cell? (ad451.add ((rd y447 2)).toNat)=some (.int .u8 (rd l0 (rd y447 2)))∧w'.cell? ⟨ad450.block,ad450.off+3,none⟩=some (.int .u8 (rd y447 3))∧w'.cell? (ad451.add ((rd y447 3)).toNat)=some (.int .u8 (rd l0 (rd y447 3)))∧w'.cell? ad450=some (.int .u8 (rd y447 0))∧w'.cell? (ad451.add ((rd y447 0)).toNat)=some (.int .u8 (rd l0 (rd y447 0)))) (ds:=[]) #[G,G,G,G,G,G,G,G,G,G,G,G,G,G,G,G,G,G,G,G,G,G,G,G,G,G,G,G] (by kernel_rfl) rfl rfl ⟨hx450_0,((HB.out.cell (World.block_lt_of_cell? w _ hw451_0)).trans hw451_0),hx452_0,((HB.out.cell (World.block_lt_of_cell? w _ hw453_0)).trans hw453_0),hx454_0,((HB.out.cell (World.block_lt_of_cell? w _ hw455_0)).trans hw455_0),hx456_0,((HB.out.cell (World.block_lt_of_cell? w _ hw457_0)).trans hw457_0)⟩ (fun hHeld=>?_); refine with_tabW legateref04_Expand.tab14 legateref04_Expand.bits14 (fun HT_ HW_=>?_)
      generalize w31.drew=w47 at HO_5 HO449 HB hx450_0 hx451_0 hx452_0 hx453_0 hx454_0 hx455_0 hx456_0 hx457_0 hHeld ⊢
      refine zq 0 (some 57) ?_ #[O,G,G,G,G,G,G,G,G,G,G,G,G,G,G,G,G,G,G,G,G,G,G,G,G,G,G,G] rfl rfl (any_of HT_.out (by kernel_rfl)) (fun _ _ _ h=>h) (Or.inl ⟨by rfl,?_⟩) ?_ ?_ ?_
      rotate_left;(intro w';go_simp;with_reducible rfl);rotate_left;(simp only [Act.put,zp];rfl)
      refine zq 1 (some 58) ?_ #[O,O,G,G,G,G,G,G,G,G,G,G,G,G,G,G,G,G,G,G,G,G,G,G,G,G,G,G] rfl rfl (any_of HT_.out (by kernel_rfl)) (fun _ _ _ h=>h) (Or.inl ⟨by rfl,?_⟩) ?_ ?_ ?_
      rotate_left;(intro w';go_simp;with_reducible rfl);rotate_left;(simp only [Act.put,zp];rfl)
      refine zq 2 (some 59) ?_ #[O,O,O,G,G,G,G,G,G,G,G,G,G,G,G,G,G,G,G,G,G,G,G,G,G,G,G,G] rfl rfl (any_of HT_.out (by kernel_rfl)) (fun _ _ _ h=>h) (Or.inl ⟨by rfl,?_⟩) ?_ ?_ ?_
      rotate_left;(intro w';go_simp;with_reducible rfl);rotate_left;(simp only [Act.put,zp];rfl)
      refine zq 6 (some 63) ?_ #[O,O,O,G,G,G,O,G,G,G,G,G,G,G,G,G,G,G,G,G,G,G,G,G,G,G,G,G] rfl rfl (any_of HT_.out (by kernel_rfl)) (fun _ _ _ h=>h) (Or.inl ⟨by rfl,?_⟩) ?_ ?_ ?_
      rotate_left;(intro w';go_simp;with_reducible rfl);rotate_left;(simp only [Act.put,zp];rfl)
      refine zq 8 (some 65) ?_ #[O,O,O,G,G,G,O,G,O,G,G,G,G,G,G,G,G,G,G,G,G,G,G,G,G,G,G,G] rfl rfl (any_of HT_.out (by kernel_rfl)) (fun _ _ _ h=>h) (Or.inl ⟨by rfl,?_⟩) ?_ ?_ ?_
      rotate_left;(intro w';go_simp;with_reducible rfl);rotate_left;(simp only [Act.put,zp];rfl)
      refine zq 9 (some 66) ?_ #[O,O,O,G,G,G,O,G,O,O,G,G,G,G,G,G,G,G,G,G,G,G,G,G,G,G,G,G] rfl rfl (any_of HT_.out (by kernel_rfl)) (fun _ _ _ h=>h) (Or.inl ⟨by rfl,?_⟩) ?_ ?_ ?_
      rotate_left;(intro w';go_simp;with_reducible rfl);rotate_left;(simp only [Act.put,zp];rfl)
      refine zq 10 (some 67) ?_ #[O,O,O,G,G,G,O,G,O,O,O,G,G,G,G,G,G,G,G,G,G,G,G,G,G,G,G,G] rfl rfl (any_of HT_.out (by kernel_rfl)) (fun _ _ _ h=>h) (Or.inl ⟨by rfl,?_⟩) ?_ ?_ ?_
      rotate_left;(intro w';go_simp;with_reducible rfl);rotate_left;(simp only [Act.put,zp];rfl)
      refine zq 14 (some 71) ?_ #[O,O,O,G,G,G,O,G,O,O,O,G,G,G,O,G,G,G,G,G,G,G,G,G,G,G,G,G] rfl rfl (any_of HT_.out (by kernel_rfl)) (fun _ _ _ h=>h) (Or.inl ⟨by rfl,?_⟩) ?_ ?_ ?_
      rotate_left;(intro w';go_simp;with_reducible rfl);rotate_left;(simp only [Act.put,zp];rfl)
      refine zq 15 (some 72) ?_ #[O,O,O,G,G,G,O,G,O,O,O,G,G,G,O,O,G,G,G,G,G,G,G,G,G,G,G,G] rfl rfl (any_of HT_.out (by kernel_rfl)) (fun _ _ _ h=>h) (Or.inl ⟨by rfl,?_⟩) ?_ ?_ ?_
      rotate_left;(intro w';go_simp;with_reducible rfl);rotate_left;(simp only [Act.put,zp];rfl)
      refine zq 16 (some 73) ?_ #[O,O,O,G,G,G,O,G,O,O,O,G,G,G,O,O,O,G,G,G,G,G,G,G,G,G,G,G] rfl rfl (any_of HT_.out (by kernel_rfl)) (fun _ _ _ h=>h) (Or.inl ⟨by rfl,?_⟩) ?_ ?_ ?_
      rotate_left;(intro w';go_simp;with_reducible rfl);rotate_left;(simp only [Act.put,zp];rfl)
      refine zq 20 (some 77) ?_ #[O,O,O,G,G,G,O,G,O,O,O,G,G,G,O,O,O,G,G,G,O,G,G,G,G,G,G,G] rfl rfl (any_of HT_.out (by kernel_rfl)) (fun _ _ _ h=>h) (Or.inl ⟨by rfl,?_⟩) ?_ ?_ ?_
      rotate_left;(intro w';go_simp;with_reducible rfl);rotate_left;(simp only [Act.put,zp];rfl)
      refine zq 21 (some 78) ?_ #[O,O,O,G,G,G,O,G,O,O,O,G,G,G,O,O,O,G,G,G,O,O,G,G,G,G,G,G] rfl rfl (any_of HT_.out (by kernel_rfl)) (fun _ _ _ h=>h) (Or.inl ⟨by rfl,?_⟩) ?_ ?_ ?_
      rotate_left;(intro w';go_simp;with_reducible rfl);rotate_left;(simp only [Act.put,zp];rfl)
      refine zq 22 (some 79) ?_ #[O,O,O,G,G,G,O,G,O,O,O,G,G,G,O,O,O,G,G,G,O,O,O,G,G,G,G,G] rfl rfl (any_of HT_.out (by kernel_rfl)) (fun _ _ _ h=>h) (Or.inl ⟨by rfl,?_⟩) ?_ ?_ ?_
      rotate_left;(intro w';go_simp;with_reducible rfl);rotate_left;(simp only [Act.put,zp];rfl)
      refine take_ (i:=3) (N:=some 60) (v:=?_) (a':=?_) #[O,O,O,O,G,G,O,G,O,O,O,G,G,G,O,O,O,G,G,G,O,O,O,G,G,G,G,G] rfl rfl (take_ofW HT_.out HW_.out (by kernel_rfl)) (fun _ _ _ h=>h) (Or.inl ⟨by rfl,?_⟩) hHeld ?_ ?_
      rotate_left
      ·rintro w' ⟨s0,s1,s2,s3,s4,s5,s6,s7⟩
       go_simp
       with_reducible rfl
      rotate_left
      ·simp only [Act.put,zp]
       rfl
      refine zq 4 (some 61) ?_ #[O,O,O,O,O,G,O,G,O,O,O,G,G,G,O,O,O,G,G,G,O,O,O,G,G,G,G,G] rfl rfl (any_of HT_.out (by kernel_rfl)) (fun _ _ _ h=>h) (Or.inl ⟨by rfl,?_⟩) ?_ ?_ ?_
      rotate_left;(intro w';go_simp;with_reducible rfl);rotate_left;(simp only [Act.put,zp];rfl)
      refine take_ (i:=5) (N:=some 62) (v:=?_) (a':=?_) #[O,O,O,O,O,O,O,G,O,O,O,G,G,G,O,O,O,G,G,G,O,O,O,G,G,G,G,G] rfl rfl (take_ofW HT_.out HW_.out (by kernel_rfl)) (fun _ _ _ h=>h) (Or.inl ⟨by rfl,?_⟩) hHeld ?_ ?_
      rotate_left
      ·rintro w' ⟨s0,s1,s2,s3,s4,s5,s6,s7⟩
       go_simp
       with_reducible rfl
      rotate_left
      ·simp only [Act.put,zp]
       rfl
      refine zq 7 (some 64) ?_ #[O,O,O,O,O,O,O,O,O,O,O,G,G,G,O,O,O,G,G,G,O,O,O,G,G,G,G,G] rfl rfl (any_of HT_.out (by kernel_rfl)) (fun _ _ _ h=>h) (Or.inl ⟨by rfl,?_⟩) ?_ ?_ ?_
      rotate_left;(intro w';go_simp;with_reducible rfl);rotate_left;(simp only [Act.put,zp];rfl)
      refine take_ (i:=11) (N:=some 68) (v:=?_) (a':=?_) #[O,O,O,O,O,O,O,O,O,O,O,O,G,G,O,O,O,G,G,G,O,O,O,G,G,G,G,G] rfl rfl (take_ofW HT_.out HW_.out (by kernel_rfl)) (fun _ _ _ h=>h) (Or.inl ⟨by rfl,?_⟩) hHeld ?_ ?_
      rotate_left
      ·rintro w' ⟨s0,s1,s2,s3,s4,s5,s6,s7⟩
       go_simp
       with_reducible rfl
      rotate_left
      ·simp only [Act.put,zp]
       rfl
      refine zq 12 (some 69) ?_ #[O,O,O,O,O,O,O,O,O,O,O,O,O,G,O,O,O,G,G,G,O,O,O,G,G,G,G,G] rfl rfl (any_of HT_.out (by kernel_rfl)) (fun _ _ _ h=>h) (Or.inl ⟨by rfl,?_⟩) ?_ ?_ ?_
      rotate_left;(intro w';go_simp;with_reducible rfl);rotate_left;(simp only [Act.put,zp];rfl)
      refine take_ (i:=13) (N:=some 70) (v:=?_) (a':=?_) #[O,O,O,O,O,O,O,O,O,O,O,O,O,O,O,O,O,G,G,G,O,O,O,G,G,G,G,G] rfl rfl (take_ofW HT_.out HW_.out (by kernel_rfl)) (fun _ _ _ h=>h) (Or.inl ⟨by rfl,?_⟩) hHeld ?_ ?_
      rotate_left
      ·rintro w' ⟨s0,s1,s2,s3,s4,s5,s6,s7⟩
       go_simp
       with_reducible rfl
      rotate_left
      ·simp only [Act.put,zp]
       rfl
      refine take_ (i:=17) (N:=some 74) (v:=?_) (a':=?_) #[O,O,O,O,O,O,O,O,O,O,O,O,O,O,O,O,O,O,G,G,O,O,O,G,G,G,G,G] rfl rfl (take_ofW HT_.out HW_.out (by kernel_rfl)) (fun _ _ _ h=>h) (Or.inl ⟨by rfl,?_⟩) hHeld ?_ ?_
      rotate_left
      ·rintro w' ⟨s0,s1,s2,s3,s4,s5,s6,s7⟩
       go_simp
       with_reducible rfl
      rotate_left
      ·simp only [Act.put,zp]
       rfl
      refine zq 18 (some 75) ?_ #[O,O,O,O,O,O,O,O,O,O,O,O,O,O,O,O,O,O,O,G,O,O,O,G,G,G,G,G] rfl rfl (any_of HT_.out (by kernel_rfl)) (fun _ _ _ h=>h) (Or.inl ⟨by rfl,?_⟩) ?_ ?_ ?_
      rotate_left;(intro w';go_simp;with_reducible rfl);rotate_left;(simp only [Act.put,zp];rfl)
      refine take_ (i:=19) (N:=some 76) (v:=?_) (a':=?_) #[O,O,O,O,O,O,O,O,O,O,O,O,O,O,O,O,O,O,O,O,O,O,O,G,G,G,G,G] rfl rfl (take_ofW HT_.out HW_.out (by kernel_rfl)) (fun _ _ _ h=>h) (Or.inl ⟨by rfl,?_⟩) hHeld ?_ ?_
      rotate_left
      ·rintro w' ⟨s0,s1,s2,s3,s4,s5,s6,s7⟩
       go_simp
       with_reducible rfl
      rotate_left
      ·simp only [Act.put,zp]
       rfl
      refine take_ (i:=23) (N:=some 80) (v:=?_) (a':=?_) #[O,O,O,O,O,O,O,O,O,O,O,O,O,O,O,O,O,O,O,O,O,O,O,O,G,G,G,G] rfl rfl (take_ofW HT_.out HW_.out (by kernel_rfl)) (fun _ _ _ h=>h) (Or.inl ⟨by rfl,?_⟩) hHeld ?_ ?_
      rotate_left
      ·rintro w' ⟨s0,s1,s2,s3,s4,s5,s6,s7⟩
       go_simp
       with_reducible rfl
      rotate_left
      ·simp only [Act.put,zp]
       rfl
      refine zq 24 (some 81) ?_ #[O,O,O,O,O,O,O,O,O,O,O,O,O,O,O,O,O,O,O,O,O,O,O,O,O,G,G,G] rfl rfl (any_of HT_.out (by kernel_rfl)) (fun _ _ _ h=>h) (Or.inl ⟨by rfl,?_⟩) ?_ ?_ ?_
      rotate_left;(intro w';go_simp;with_reducible rfl);rotate_left;(simp only [Act.put,zp];rfl)
      refine take_ (i:=25) (N:=some 82) (v:=?_) (a':=?_) #[O,O,O,O,O,O,O,O,O,O,O,O,O,O,O,O,O,O,O,O,O,O,O,O,O,O,G,G] rfl rfl (take_ofW HT_.out HW_.out (by kernel_rfl)) (fun _ _ _ h=>h) (Or.inl ⟨by rfl,?_⟩) hHeld ?_ ?_
      rotate_left
      ·rintro w' ⟨s0,s1,s2,s3,s4,s5,s6,s7⟩
       go_simp
       with_reducible rfl
      rotate_left
      ·simp only [Act.put,zp]
       rfl
      refine one_ (i:=26) (N:=some 83) #[O,O,O,O,O,O,O,O,O,O,O,O,O,O,O,O,O,O,O,O,O,O,O,O,O,O,O,G] rfl rfl (one_of HT_.out (by kernel_rfl)) (by decide) (fun K hK=>?_)
      refine Kd.R_lit_step (Kd.int .u8) _ 5 ?hg (N:=83) ?hd (xs:=([Go.bits .xor .u8 (rd l0 (rd y447 1)) x7_2,rd l0 (rd y447 2),rd l0 (rd y447 3),rd l0 (rd y447 0)]:List Int)) (inner:=[.int .u8 (Go.bits .xor .u8 (rd l0 (rd y447 1)) x7_2),.int .u8 (rd l0 (rd y447 2)),.int .u8 (rd l0 (rd y447 3)),.int .u8 (rd l0 (rd y447 0))]) (ok:=fun _=>True) (okp:=fun _=>True) ?hr ?hp (fun _ hk=>hk) trivial (Below.refl _ _) (Nat.le_refl _) (by simp) ?_; (case hd=>rfl); (case hg=>rfl); (case hr=>first|(go_simp; done)|(go_simp; rfl)); (case hp=>exact (Reps.one (show Kd.M (Kd.int .u8) _ _ _ (Go.bits .xor .u8 (rd l0 (rd y447 1)) x7_2) [.int .u8 (Go.bits .xor .u8 (rd l0 (rd y447 1)) x7_2)] from rfl) (Reps.one (show Kd.M (Kd.int .u8) _ _ _ (rd l0 (rd y447 2)) [.int .u8 (rd l0 (rd y447 2))] from rfl) (Reps.one (show Kd.M (Kd.int .u8) _ _ _ (rd l0 (rd y447 3)) [.int .u8 (rd l0 (rd y447 3))] from rfl) (Reps.one (show Kd.M (Kd.int .u8) _ _ _ (rd l0 (rd y447 0)) [.int .u8 (rd l0 (rd y447 0))] from rfl) (Reps.none _ _))))))
      intro v459 w49 ho50 hb hg_ hnew_
      have HS0_:=(hb.cell (World.block_lt_of_cell? _ _ (hHeld.1))).trans (hHeld.1)
      have HS2_:=(hb.cell (World.block_lt_of_cell? _ _ (hHeld.2.2.1))).trans (hHeld.2.2.1)
      have HS4_:=(hb.cell (World.block_lt_of_cell? _ _ (hHeld.2.2.2.2.1))).trans (hHeld.2.2.2.2.1)
      have HS6_:=(hb.cell (World.block_lt_of_cell? _ _ (hHeld.2.2.2.2.2.2.1))).trans (hHeld.2.2.2.2.2.2.1)
      clear hg_ hnew_
      (first|rw [← Ny458.out] at ho50|(simp only [Int.reduceToNat] at ho50; rw [← Ny458.out] at ho50))
      have n0_:=zK (Kd.R_elder' (by (with_reducible repeat (first|apply Kd.R_alloc|apply Kd.R_drewN|apply Kd.R_drew)); exact HO_5.out) (Kd.R_base ho50) hb)
      have n1_:=zK (Kd.R_elder' (by (with_reducible repeat (first|apply Kd.R_alloc|apply Kd.R_drewN|apply Kd.R_drew)); exact HO449.out) (Kd.R_base ho50) hb)
      have n2_:=zK (Kd.R_lower (Kd.R_new' (Kd.R_new' ho50 (Kd.R_lt (by (with_reducible repeat (first|apply Kd.R_alloc|apply Kd.R_drewN|apply Kd.R_drew)); exact HO_5.out))) (Kd.R_lt (by (with_reducible repeat (first|apply Kd.R_alloc|apply Kd.R_drewN|apply Kd.R_drew)); exact HO449.out))) (below_size (by repeat (first|(with_reducible first|exact HB.out|apply zA|apply zN|apply zD)|exact HB.out))))
      have n3_:=zK (below_step (by repeat (first|(with_reducible first|exact HB.out|apply zA|apply zN|apply zD)|exact HB.out)) hb)
      clear HO_5
      clear HO449
      clear HB
      have HO_5:=n0_
      have HO449:=n1_
      have HO460:=n2_
      have HB:=n3_
      clear n0_ n1_ n2_ n3_
      clear hb ho50
      refine hK.out _ _ ⟨HS0_,((HB.out.cell (World.block_lt_of_cell? w _ hw451_0)).trans hw451_0),HS2_,((HB.out.cell (World.block_lt_of_cell? w _ hw453_0)).trans hw453_0),HS4_,((HB.out.cell (World.block_lt_of_cell? w _ hw455_0)).trans hw455_0),HS6_,((HB.out.cell (World.block_lt_of_cell? w _ hw457_0)).trans hw457_0)⟩ (fun hHeld=>?_)
      clear hK K
      refine norm_ (a':=?_) ?_ ?_
      rotate_left
      ·show Act.put _ (some 83) _=_
       simp only [Act.put,zp]
       rfl
      refine zq 27 (some 9) ?_ #[O,O,O,O,O,O,O,O,O,O,O,O,O,O,O,O,O,O,O,O,O,O,O,O,O,O,O,O] rfl rfl (any_of HT_.out (by kernel_rfl)) (fun _ _ _ h=>h) (Or.inl ⟨by rfl,?_⟩) ?_ ?_ ?_
      rotate_left;(intro w';go_simp;with_reducible rfl);rotate_left;(simp only [Act.put,zp];rfl)
      refine done_ (done_of HT_.out (by kernel_rfl)) ?_
      try go_wp2_with (first|((with_reducible refine gate_callee (f:=90) rfl ?_); refine goesL_ (some 85) rfl rfl Tryd.func90 (by kernel_rfl) rfl #[.int .u8 x7_2,.int .u8 2] rfl (by (try simp only [zm]); first|done|rfl|(simp only [zl]; rfl)) ?_; (with_reducible refine (legateref04_Times.calls k2 x7_2 2 t461 _ A46.out).mono ?_); rintro e w' ⟨rfl,⟨nd,rfl⟩⟩; refine ⟨_,rfl,?_⟩))
      go_meet
      case rel=>exact ⟨_,(t461),(y458),(by first|rfl|(simp; done)|(simp [*]; done)),H',⟨by have:=HK1.out; have:=HK2.out; first|omega|exact Nat.le_refl _⟩,⟨by (with_reducible repeat (first|apply Kd.R_alloc|apply Kd.R_drewN|apply Kd.R_drew)); exact Kd.R_mono HO_5.out (fun _ hk=>hk.2)⟩,⟨by (with_reducible repeat (first|apply Kd.R_alloc|apply Kd.R_drewN|apply Kd.R_drew)); exact Kd.R_mono HO460.out (fun _ hk=>hk.1.2)⟩,⟨by repeat (first|(with_reducible first|exact HB.out|apply zA|apply zN|apply zD)|exact HB.out)⟩⟩
     case rest =>
      clear HC28
      try clear p2
      try clear c3
      try clear c4
      try clear p4
      try clear q4
      try clear hx4
      try clear qi4
      try clear c9
      try clear c33
      try clear c33b0
      try clear c33b1
      try clear c34
      try clear c34b0
      try clear c34b1
      try clear c35
      try clear c35b0
      try clear c36
      try clear c36b0
      try clear c37
      try clear c37b0
      try clear c37b1
      try clear c38
      try clear c38b0
      try clear c39
      try clear c39b0
      try clear c40
      try clear c40b0
      try clear c40b1
      try clear c41
      try clear c41b0
      try clear c42
      try clear c42b0
      try clear c43
      try clear c43b0
      try clear c43b1
      try clear c44
      try clear c44b0
      try clear c45
      try clear c45b0
      try clear p45
      try clear q45
      try clear hx45
      try clear qi45
      try clear hx450_0
      try clear hx451_0
      try clear hx452_0
      try clear hx453_0
      try clear hx454_0
      try clear hx455_0
      try clear hx456_0
      try clear hx457_0
      try clear p450
      try clear p451
      try clear p452
      try clear p453
      try clear p454
      try clear p455
      try clear p456
      try clear p457
      try clear q450
      try clear q451
      try clear q452
      try clear q453
      try clear q454
      try clear q455
      try clear q456
      try clear q457
      obtain ⟨kq,x7_27,x9_27,rfl,HA,HJ27,HO_5,HO_9,HB⟩:=hcut
      cases kq with
      | zero=>exact absurd HA.out (by simp [legateref04_Expand.j2])
      | succ kj27 =>
       have H:=HA.out
       clear HA
       simp only [legateref04_Expand.j2] at H
       have H':=zK H
       clear H
       go_wp2
       go_loopg [10] kj27 (fun kq v10 w'=>∃ (x5_4:List Int) (x10_4:Int),v10=.int .i64 x10_4∧Aside0 (legateref04_Expand.l2 kq l0 x5_4 x7_27 x8_2 x9_27 x10_4=some r)∧Aside0 (kq≤kj27)∧Aside0 (Kd.R (Kd.int .u8) 5 w' w.heap.size (fun k_=>some k_≠(u9:Value).ownBlock) (.slice (some ad443) x5_2.length co30) x5_4)∧Aside0 (Kd.R (Kd.int .u8) 5 w' w.heap.size (fun k_=>some k_≠((.slice (some ad443) x5_2.length co30):Value).ownBlock) u9 x9_27)∧Aside0 (Below w.heap.size w w'))
       case atStart=>exact ⟨(x5_2),(0),(by first|rfl|(simp; done)|(simp [*]; done)),H',⟨Nat.le_refl _⟩,⟨by (with_reducible repeat (first|apply Kd.R_alloc|apply Kd.R_drewN|apply Kd.R_drew)); exact HO_5.out⟩,⟨by (with_reducible repeat (first|apply Kd.R_alloc|apply Kd.R_drewN|apply Kd.R_drew)); exact HO_9.out⟩,⟨by repeat (first|(with_reducible first|exact HB.out|apply zA|apply zN|apply zD)|exact HB.out)⟩⟩
       case round =>
        clear H'
        try clear p2
        try clear c3
        try clear c4
        try clear p4
        try clear q4
        try clear hx4
        try clear qi4
        try clear c9
        try clear c33
        try clear c33b0
        try clear c33b1
        try clear c34
        try clear c34b0
        try clear c34b1
        try clear c35
        try clear c35b0
        try clear c36
        try clear c36b0
        try clear c37
        try clear c37b0
        try clear c37b1
        try clear c38
        try clear c38b0
        try clear c39
        try clear c39b0
        try clear c40
        try clear c40b0
        try clear c40b1
        try clear c41
        try clear c41b0
        try clear c42
        try clear c42b0
        try clear c43
        try clear c43b0
        try clear c43b1
        try clear c44
        try clear c44b0
        try clear c45
        try clear c45b0
        try clear p45
        try clear q45
        try clear hx45
        try clear qi45
        try clear hx450_0
        try clear hx451_0
        try clear hx452_0
        try clear hx453_0
        try clear hx454_0
        try clear hx455_0
        try clear hx456_0
        try clear hx457_0
        try clear p2
        try clear p4
        try clear p45
        try clear p450
        try clear p451
        try clear p452
        try clear p453
        try clear p454
        try clear p455
        try clear p456
        try clear p457
        try clear q4
        try clear q45
        try clear q450
        try clear q451
        try clear q452
        try clear q453
        try clear q454
        try clear q455
        try clear q456
        try clear q457
        obtain ⟨x5_4,x10_4,rfl,HA,HK4,HO_5,HO_9,HB⟩:=hrel
        have hl5_4:=(Kd.R_reads' HO_5.out).1
        rw [hl5_4] at HO_5
        (try simp only [hl5_4])
        (try simp only [hl5_4] at HO_9)
        cases gk with
        | zero=>exact absurd HA.out (by simp [legateref04_Expand.l2])
        | succ k4 =>
         have H:=HA.out
         clear HA
         simp only [legateref04_Expand.l2] at H
         by_cases c51:x10_4<4
         case neg =>
          rw [if_neg c51] at H
          have c51b0:decide (x10_4<4)=false:=decide_eq_false c51
          clear c51
          have H':=zK H
          clear H
          go_wp2
          (try simp only [← hl5_4])
          go_roundg k4
          case measure=>have:=HK1.out; have:=HK2.out; have:=HJ27.out; have:=HK4.out; omega
          case rel=>exact ⟨(x5_4),(x7_27),(wrap64 (x8_2+1)),(by first|rfl|(simp; done)|(simp [*]; done)),(by first|rfl|(simp; done)|(simp [*]; done)),H',⟨by have:=HK1.out; have:=HK2.out; have:=HJ27.out; have:=HK4.out; omega⟩,⟨by (try simp only [hl5_4]); (with_reducible repeat (first|apply Kd.R_alloc|apply Kd.R_drewN|apply Kd.R_drew)); exact Kd.R_mono HO_5.out (fun _ hk=>trivial)⟩,⟨by repeat (first|(with_reducible first|exact HB.out|apply zA|apply zN|apply zD)|exact HB.out)⟩⟩
         rw [if_pos c51] at H
         have c51b0:decide (x10_4<4)=true:=decide_eq_true c51
         clear c51
         obtain ⟨ji52,hji52⟩:∃ j_:Int,(wrap64 ((wrap64 ((wrap64 (4 * x8_2)) - 16))+x10_4))=j_:=⟨_,rfl⟩
         replace H:(if 0≤(ji52) then (if (ji52)<(x5_4.length:Int) then (if 0≤x10_4 then (if x10_4<(x9_27.length:Int) then (if 0≤(wrap64 ((wrap64 (4 * x8_2))+x10_4)) then (if (wrap64 ((wrap64 (4 * x8_2))+x10_4))<(x5_4.length:Int) then (legateref04_Expand.l2 k4 l0 (x5_4.set ((wrap64 ((wrap64 (4 * x8_2))+x10_4)):Int).toNat (Go.bits .xor .u8 (rd x5_4 (ji52)) (rd x9_27 x10_4))) x7_27 x8_2 x9_27 (wrap64 (x10_4+1))) else (none)) else (none)) else (none)) else (none)) else (none)) else (none))=some r:=by first|(rw [hji52] at H; exact H)|(simp only [hji52] at H ⊢; exact H)
         have hji52w:(IntKind.i64.wrap ((wrap64 ((wrap64 (4 * x8_2)) - 16))+x10_4))=ji52:=(i64_w _).trans hji52
         by_cases c53:0≤(ji52)
         case neg =>
          rw [if_neg c53] at H
          exact absurd H (by simp)
         rw [if_pos c53] at H
         have c53b0:decide (0≤(ji52))=true:=decide_eq_true c53
         clear c53
         by_cases c54:(ji52)<(x5_4.length:Int)
         case neg =>
          rw [if_neg c54] at H
          exact absurd H (by simp)
         rw [if_pos c54] at H
         have c54b0:decide ((ji52)<(x5_4.length:Int))=true:=decide_eq_true c54
         clear c54
         by_cases c55:0≤x10_4
         case neg =>
          rw [if_neg c55] at H
          exact absurd H (by simp)
         rw [if_pos c55] at H
         have c55b0:decide (0≤x10_4)=true:=decide_eq_true c55
         clear c55
         by_cases c56:x10_4<(x9_27.length:Int)
         case neg =>
          rw [if_neg c56] at H
          exact absurd H (by simp)
         rw [if_pos c56] at H
         have c56b0:decide (x10_4<(x9_27.length:Int))=true:=decide_eq_true c56
         clear c56
         obtain ⟨ji57,hji57⟩:∃ j_:Int,(wrap64 ((wrap64 (4 * x8_2))+x10_4))=j_:=⟨_,rfl⟩
         replace H:(if 0≤(ji57) then (if (ji57)<(x5_4.length:Int) then (legateref04_Expand.l2 k4 l0 (x5_4.set ((ji57):Int).toNat (Go.bits .xor .u8 (rd x5_4 (ji52)) (rd x9_27 x10_4))) x7_27 x8_2 x9_27 (wrap64 (x10_4+1))) else (none)) else (none))=some r:=by first|(rw [hji57] at H; exact H)|(simp only [hji57] at H ⊢; exact H)
         have hji57w:(IntKind.i64.wrap ((wrap64 (4 * x8_2))+x10_4))=ji57:=(i64_w _).trans hji57
         by_cases c58:0≤(ji57)
         case neg =>
          rw [if_neg c58] at H
          exact absurd H (by simp)
         rw [if_pos c58] at H
         have c58b0:decide (0≤(ji57))=true:=decide_eq_true c58
         clear c58
         by_cases c59:(ji57)<(x5_4.length:Int)
         case neg =>
          rw [if_neg c59] at H
          exact absurd H (by simp)
         rw [if_pos c59] at H
         have c59b0:decide ((ji57)<(x5_4.length:Int))=true:=decide_eq_true c59
         clear c59
         obtain ⟨y464,hy464⟩:∃ y_:List Int,y_=(x5_4.set ((ji57):Int).toNat (Go.bits .xor .u8 (rd x5_4 (ji52)) (rd x9_27 x10_4))):=⟨_,rfl⟩
         replace H:(legateref04_Expand.l2 k4 l0 y464 x7_27 x8_2 x9_27 (wrap64 (x10_4+1)))=some r:=by first|(rw [hy464]; with_reducible exact H)|(have H2_:=(Option.bind_some _ _).symm.trans H; rw [hy464]; with_reducible exact H2_)|(have H2_:=(Option.bind_some _ _).symm.trans H; with_reducible exact H2_)|with_reducible exact H|(rw [hy464]; exact H)|exact H
         have Ny464:=zK hy464
         clear hy464
         have H':=zK H
         clear H
         try go_wp2
         have n0_:=zK (Kd.R_drew HO_5.out)
         have n1_:=zK (Kd.R_drew HO_9.out)
         have n2_:=zK (zD HB.out)
         clear HO_5
         clear HO_9
         clear HB
         have HO_5:=n0_
         have HO_9:=n1_
         have HB:=n2_
         clear n0_ n1_ n2_
         have p462:0≤((ji52):Int):=of_decide_eq_true (by first|(with_reducible assumption)|assumption)
         have q462:(ji52)<(x5_4.length:Int):=of_decide_eq_true (by first|(with_reducible assumption)|assumption)
         obtain ⟨ad462,e462,hx462_0⟩:=Kd.at_int (Kd.R_reads' HO_5.out).2.2 (ji52) p462 q462
         obtain rfl:ad443=ad462:=(by injection e462)
         replace p462:=eq_true p462
         replace q462:=eq_true q462
         obtain ⟨Ao62,co62,eo62⟩:=Kd.R_slice HO_9.out
         (first|subst eo62|(injection eo62 with f1_ f2_ f3_; have f4_:=f1_.symm; have f5_:=f3_.symm; clear f1_ f2_ f3_; subst f4_; subst f5_))
         have p463:0≤(x10_4:Int):=of_decide_eq_true (by first|(with_reducible assumption)|assumption)
         have q463:x10_4<(x9_27.length:Int):=of_decide_eq_true (by first|(with_reducible assumption)|assumption)
         obtain ⟨ad463,e463,hx463_0⟩:=Kd.at_int (Kd.R_reads' HO_9.out).2.2 x10_4 p463 q463
         cases e463
         replace p463:=eq_true p463
         replace q463:=eq_true q463
         have p60:0≤((ji57):Int):=of_decide_eq_true (by first|(with_reducible assumption)|assumption)
         have q60:((ji57):Int)<((x5_4.length:Int):Int):=of_decide_eq_true (by first|(with_reducible assumption)|assumption)
         obtain ⟨go60,co60,eo60,gb60,gl60,cl60,HG60⟩:=Kd.R_form HO_5.out (by omega)
         (first|cases eo60|(injection eo60 with ea_ en_ ec_; (first|subst ea_|(injection ea_ with ea_; subst ea_)); subst ec_; clear en_))
         have GB60:=zK gb60
         have GG60:=zK HG60
         clear gb60 gl60 HG60
         (first|simp only [add_plain] at hx443_0|skip)
         (first|simp only [add_plain] at hx444_0|skip)
         (first|simp only [add_plain] at hx445_0|skip)
         (first|simp only [add_plain] at hx446_0|skip)
         (first|simp only [add_plain] at hx462_0|skip)
         obtain ⟨hx60_0,hf60_0⟩:=Kd.R_celln 0 HO_5.out ((ji57):Int) p60 q60
         replace p60:=eq_true p60
         replace q60:=eq_true q60
         have HP63:=Kd.R_putn HO_5.out ((ji57):Int) (Go.bits .xor .u8 (rd x5_4 (ji52)) (rd x9_27 x10_4))
         rw [← Ny464.out] at HP63
         have HQ63:=zK HP63
         clear HP63
         refine start_ (n:=20) (S:=fun w'=>w'.cell? ⟨go60,((ji52)).toNat,none⟩=some (.int .u8 (rd x5_4 (ji52)))∧w'.cell? (ad463.add (x10_4).toNat)=some (.int .u8 (rd x9_27 x10_4))) (ds:=[19]) #[G,G,G,G,G,G,G,G,G,G,G,G,G,G,G,G,G,G,G,G] (by kernel_rfl) rfl rfl ⟨hx462_0,hx463_0⟩ (fun hHeld=>?_); refine with_tabW legateref04_Expand.tab19 legateref04_Expand.bits19 (fun HT_ HW_=>?_)
         generalize wr.drew=w61 at HO_5 HO_9 HB GG60 HQ63 hf60_0 hx443_0 hx444_0 hx445_0 hx446_0 hx462_0 hx463_0 hx60_0 hHeld ⊢
         refine zq 0 (some 90) ?_ #[O,G,G,G,G,G,G,G,G,G,G,G,G,G,G,G,G,G,G,G] rfl rfl (any_of HT_.out (by kernel_rfl)) (fun _ _ _ h=>h) (Or.inl ⟨by rfl,?_⟩) ?_ ?_ ?_
         rotate_left;(intro w';go_simp;with_reducible rfl);rotate_left;(simp only [Act.put,zp];rfl)
         refine zq 1 (some 91) ?_ #[O,O,G,G,G,G,G,G,G,G,G,G,G,G,G,G,G,G,G,G] rfl rfl (any_of HT_.out (by kernel_rfl)) (fun _ _ _ h=>h) (Or.inl ⟨by rfl,?_⟩) ?_ ?_ ?_
         rotate_left;(intro w';go_simp;with_reducible rfl);rotate_left;(simp only [Act.put,zp];rfl)
         refine zq 2 (some 92) ?_ #[O,O,O,G,G,G,G,G,G,G,G,G,G,G,G,G,G,G,G,G] rfl rfl (any_of HT_.out (by kernel_rfl)) (fun _ _ _ h=>h) (Or.inl ⟨by rfl,?_⟩) ?_ ?_ ?_
         rotate_left;(intro w';go_simp;with_reducible rfl);rotate_left;(simp only [Act.put,zp];rfl)
         refine zq 3 (some 93) ?_ #[O,O,O,O,G,G,G,G,G,G,G,G,G,G,G,G,G,G,G,G] rfl rfl (any_of HT_.out (by kernel_rfl)) (fun _ _ _ h=>h) (Or.inl ⟨by rfl,?_⟩) ?_ ?_ ?_
         rotate_left;(intro w';go_simp;with_reducible rfl);rotate_left;(simp only [Act.put,zp];rfl)
         refine zq 4 (some 94) ?_ #[O,O,O,O,O,G,G,G,G,G,G,G,G,G,G,G,G,G,G,G] rfl rfl (any_of HT_.out (by kernel_rfl)) (fun _ _ _ h=>h) (Or.inl ⟨by rfl,?_⟩) ?_ ?_ ?_
         rotate_left;(intro w';go_simp;with_reducible rfl);rotate_left;(simp only [Act.put,zp];rfl)
         refine zq 5 (some 95) ?_ #[O,O,O,O,O,O,G,G,G,G,G,G,G,G,G,G,G,G,G,G] rfl rfl (any_of HT_.out (by kernel_rfl)) (fun _ _ _ h=>h) (Or.inl ⟨by rfl,?_⟩) ?_ ?_ ?_
         rotate_left;(intro w';go_simp;with_reducible rfl);rotate_left;(simp only [Act.put,zp];rfl)
         refine zq 6 (some 96) ?_ #[O,O,O,O,O,O,O,G,G,G,G,G,G,G,G,G,G,G,G,G] rfl rfl (any_of HT_.out (by kernel_rfl)) (fun _ _ _ h=>h) (Or.inl ⟨by rfl,?_⟩) ?_ ?_ ?_
         rotate_left;(intro w';go_simp;with_reducible rfl);rotate_left;(simp only [Act.put,zp];rfl)
         refine zq 7 (some 97) ?_ #[O,O,O,O,O,O,O,O,G,G,G,G,G,G,G,G,G,G,G,G] rfl rfl (any_of HT_.out (by kernel_rfl)) (fun _ _ _ h=>h) (Or.inl ⟨by rfl,?_⟩) ?_ ?_ ?_
         rotate_left;(intro w';go_simp;with_reducible rfl);rotate_left;(simp only [Act.put,zp];rfl)
         refine zq 8 (some 98) ?_ #[O,O,O,O,O,O,O,O,O,G,G,G,G,G,G,G,G,G,G,G] rfl rfl (any_of HT_.out (by kernel_rfl)) (fun _ _ _ h=>h) (Or.inl ⟨by rfl,?_⟩) ?_ ?_ ?_
         rotate_left;(intro w';go_simp;with_reducible rfl);rotate_left;(simp only [Act.put,zp];rfl)
         refine zq 9 (some 99) ?_ #[O,O,O,O,O,O,O,O,O,O,G,G,G,G,G,G,G,G,G,G] rfl rfl (any_of HT_.out (by kernel_rfl)) (fun _ _ _ h=>h) (Or.inl ⟨by rfl,?_⟩) ?_ ?_ ?_
         rotate_left;(intro w';go_simp;with_reducible rfl);rotate_left;(simp only [Act.put,zp];rfl)
         refine zq 10 (some 100) ?_ #[O,O,O,O,O,O,O,O,O,O,O,G,G,G,G,G,G,G,G,G] rfl rfl (any_of HT_.out (by kernel_rfl)) (fun _ _ _ h=>h) (Or.inl ⟨by rfl,?_⟩) ?_ ?_ ?_
         rotate_left;(intro w';go_simp;with_reducible rfl);rotate_left;(simp only [Act.put,zp];rfl)
         refine zq 11 (some 101) ?_ #[O,O,O,O,O,O,O,O,O,O,O,O,G,G,G,G,G,G,G,G] rfl rfl (any_of HT_.out (by kernel_rfl)) (fun _ _ _ h=>h) (Or.inl ⟨by rfl,?_⟩) ?_ ?_ ?_
         rotate_left;(intro w';go_simp;with_reducible rfl);rotate_left;(simp only [Act.put,zp];rfl)
         refine zq 13 (some 103) ?_ #[O,O,O,O,O,O,O,O,O,O,O,O,G,O,G,G,G,G,G,G] rfl rfl (any_of HT_.out (by kernel_rfl)) (fun _ _ _ h=>h) (Or.inl ⟨by rfl,?_⟩) ?_ ?_ ?_
         rotate_left;(intro w';go_simp;with_reducible rfl);rotate_left;(simp only [Act.put,zp];rfl)
         refine zq 14 (some 104) ?_ #[O,O,O,O,O,O,O,O,O,O,O,O,G,O,O,G,G,G,G,G] rfl rfl (any_of HT_.out (by kernel_rfl)) (fun _ _ _ h=>h) (Or.inl ⟨by rfl,?_⟩) ?_ ?_ ?_
         rotate_left;(intro w';go_simp;with_reducible rfl);rotate_left;(simp only [Act.put,zp];rfl)
         refine zq 15 (some 105) ?_ #[O,O,O,O,O,O,O,O,O,O,O,O,G,O,O,O,G,G,G,G] rfl rfl (any_of HT_.out (by kernel_rfl)) (fun _ _ _ h=>h) (Or.inl ⟨by rfl,?_⟩) ?_ ?_ ?_
         rotate_left;(intro w';go_simp;with_reducible rfl);rotate_left;(simp only [Act.put,zp];rfl)
         refine take_ (i:=12) (N:=some 102) (v:=?_) (a':=?_) #[O,O,O,O,O,O,O,O,O,O,O,O,O,O,O,O,G,G,G,G] rfl rfl (take_ofW HT_.out HW_.out (by kernel_rfl)) (fun _ _ _ h=>h) (Or.inl ⟨by rfl,?_⟩) hHeld ?_ ?_
         rotate_left
         ·rintro w' ⟨s0,s1⟩
          go_simp
          with_reducible rfl
         rotate_left
         ·simp only [Act.put,zp]
          rfl
         refine take_ (i:=16) (N:=some 106) (v:=?_) (a':=?_) #[O,O,O,O,O,O,O,O,O,O,O,O,O,O,O,O,O,G,G,G] rfl rfl (take_ofW HT_.out HW_.out (by kernel_rfl)) (fun _ _ _ h=>h) (Or.inl ⟨by rfl,?_⟩) hHeld ?_ ?_
         rotate_left
         ·rintro w' ⟨s0,s1⟩
          go_simp
          with_reducible rfl
         rotate_left
         ·simp only [Act.put,zp]
          rfl
         refine zq 17 (some 107) ?_ #[O,O,O,O,O,O,O,O,O,O,O,O,O,O,O,O,O,O,G,G] rfl rfl (any_of HT_.out (by kernel_rfl)) (fun _ _ _ h=>h) (Or.inl ⟨by rfl,?_⟩) ?_ ?_ ?_
         rotate_left;(intro w';go_simp;with_reducible rfl);rotate_left;(simp only [Act.put,zp];rfl)
         refine zq 18 (some 108) ?_ #[O,O,O,O,O,O,O,O,O,O,O,O,O,O,O,O,O,O,O,G] rfl rfl (any_of HT_.out (by kernel_rfl)) (fun _ _ _ h=>h) (Or.inl ⟨by rfl,?_⟩) ?_ ?_ ?_
         rotate_left;(intro w';go_simp;with_reducible rfl);rotate_left;(simp only [Act.put,zp];rfl)
         refine last_ (i:=19) (N:=none) #[O,O,O,O,O,O,O,O,O,O,O,O,O,O,O,O,O,O,O,O] rfl rfl (one_of HT_.out (by kernel_rfl)) (by decide) (fun K hK=>?_)
         refine skip_ (w1:=?_) (by rfl) rfl ?_ ?_
         rotate_left
         ·go_simp
          rfl
         refine hK.out _ _ ?_
         clear hK K
         refine done_ (done_of HT_.out (by kernel_rfl)) ?_
         try go_wp2
         (try simp only [← hl5_4])
         go_roundg k4
         case measure=>have:=HK1.out; have:=HK2.out; have:=HJ27.out; have:=HK4.out; omega
         case rel=>exact ⟨(y464),(wrap64 (x10_4+1)),(by first|rfl|(simp; done)|(simp [*]; done)),H',⟨by have:=HK1.out; have:=HK2.out; have:=HJ27.out; have:=HK4.out; omega⟩,⟨by (try simp only [hl5_4]); (with_reducible repeat (first|apply Kd.R_alloc|apply Kd.R_drewN|apply Kd.R_drew)); exact HQ63.out⟩,⟨by (try simp only [hl5_4]); (with_reducible repeat (first|apply Kd.R_alloc|apply Kd.R_drewN|apply Kd.R_drew)); exact Kd.R_mono (Kd.R_far (p:=⟨go60,((ji57):Int).toNat,none⟩) (Kd.R_mono HO_9.out (fun k_ hk=>(⟨hk,fun e_=>hk (by rw [e_]; rfl)⟩:_∧k_≠go60))) (fun _ hk=>hk.2) (.int .u8 (Go.bits .xor .u8 (rd x5_4 (ji52)) (rd x9_27 x10_4)))) (fun _ hk=>hk.1)⟩,⟨by repeat (first|(with_reducible first|exact HB.out|apply zA|apply zN|apply zD|refine below_set ?_ GB60.out)|exact HB.out)⟩⟩
end Go.Proofs.YtkgijkfcmbpgpaaDoor.PAll
end
