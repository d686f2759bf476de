import Derived.Test.YtkgijkfcmbpgpaaDoorS2b0
import Derived.Test.YtkgijkfcmbpgpaaDoorS2b1
import Derived.Test.YtkgijkfcmbpgpaaDoorS2b15
import Derived.Test.YtkgijkfcmbpgpaaDoorS2b2
section
namespace Go.Proofs.YtkgijkfcmbpgpaaDoor.PAll
open Go.RowKit Go.Proofs.YtkgijkfcmbpgpaaDoorW.PrintWords Go.Proofs.YtkgijkfcmbpgpaaDoorW.PrintLast Go.Proofs.YtkgijkfcmbpgpaaDoorW.PrintMore
attribute [local go_sem] max2_int min2_int max_two min_two max_three min_three max_four min_four
set_option linter.unusedVariables false
set_option linter.unusedSimpArgs false
mutual
def legateref03_Tables_Key.j0:Nat→ByteArray→Option (ByteArray)
  | 0,_=>none
  | k+1,x1=>legateref03_Tables_Key.l0 k x1
def legateref03_Tables_Key.l0:Nat→ByteArray→Option (ByteArray)
  | 0,_=>none
  | k+1,x1=>if (x1.size:Int)<64 then (if x1.size+1≤9223372036854775807 then (legateref03_Tables_Key.l0 k (x1++(⟨#[0]⟩:ByteArray))) else (none)) else (some x1)
end
def legateref03_Tables_Key.f (k:Nat) (l0_0:List Int) (a0_1:ByteArray) (a1:ByteArray):Option (ByteArray):=if (a1.size:Int) > 64 then ((legateref03_Tables_Sum.f k l0_0 a0_1 a1).bind fun t325=>(legateref03_Tables_Key.j0 k t325)) else (legateref03_Tables_Key.j0 k a1)
set_option maxHeartbeats 8000000 in
set_option maxRecDepth 100000 in
theorem legateref03_Tables_Key.calls (k:Nat) (A0_0:Option Addr) (c0_0:Nat) (l0_0:List Int) (a0_1:ByteArray) (a1:ByteArray) (r:ByteArray) (w:World) (hr0_0:Kd.C (Kd.int .i64) w A0_0 l0_0.length l0_0) (hc0_0:l0_0.length≤c0_0) (h:legateref03_Tables_Key.f k l0_0 a0_1 a1=some r) :
 Calls Tryd.prog 38 #[.agg #[.slice A0_0 l0_0.length c0_0,.string a0_1],.string a1] w fun e w'=>e=.returned (.string r)∧Below w.heap.size w w':=by
 have hu42:=Tryd.underlying42
 have HR0_0:=zK hr0_0
 have HC0_0:=zK hc0_0
 clear hr0_0 hc0_0
 have HB:=zK (Below.refl w.heap.size w)
 have H:(if (a1.size:Int) > 64 then ((legateref03_Tables_Sum.f k l0_0 a0_1 a1).bind fun t325=>(legateref03_Tables_Key.j0 k t325)) else (legateref03_Tables_Key.j0 k a1))=some r:=h
 clear h
 have HC3:=zK H
 clear H
 go_enter Tryd.func38,Tryd.ntmps38
 go_upto_if 7 with (first|((with_reducible refine gate_dst (N:=2) rfl ?_); refine box_event ?hg (N:=2) ?hd (cs:=#[.slice A0_0 l0_0.length c0_0,.string a0_1]) (t:=42) ?hr ?_; (case hd=>rfl); (case hg=>rfl); (case hr=>first|(go_simp; done)|(go_simp; rfl)); intro gb324 hg w4 hbox hb; have n0_:=zK (below_step (by repeat (first|(with_reducible first|exact HB.out|apply zA|apply zN|apply zD)|exact HB.out)) hb); have n1_:=zK (hbox); have n2_:=zK ((by rw [hg]; exact (below_size (by repeat (first|(with_reducible first|exact HB.out|apply zA|apply zN|apply zD)|exact HB.out))):w.heap.size≤gb324)); have n3_:=zK ((by rw [hg]; exact (below_size (by repeat (first|(with_reducible first|exact HB.out|apply zA|apply zN|apply zD)|exact HB.out))):w.heap.size≤gb324)); clear HB; have HB:=n0_; have BK324:=n1_; have GW324:=n2_; have GE324:=n3_; clear n0_ n1_ n2_ n3_; clear hb hbox hg))
 (try simp only [Act.put,List.setIfInBounds_toArray,List.set_cons_zero,List.set_cons_succ])
 go_cut [1] (fun v1 wc=>∃ (kq:Nat) (x1_2:ByteArray),v1=.string x1_2∧Aside0 (legateref03_Tables_Key.j0 kq x1_2=some r)∧Aside0 (kq≤k)∧Aside0 (wc.heap[gb324]? = some (.cells #[(.slice A0_0 l0_0.length c0_0),.string a0_1] 42 (0,0)))∧Aside0 (Below w.heap.size w wc))
 case first =>
  have H:=HC3.out
  clear HC3
  by_cases c5:(a1.size:Int) > 64
  case neg =>
   rw [if_neg c5] at H
   have c5b0:decide (64<(a1.size:Int))=false:=decide_eq_false c5
   have c5b1:decide (64<a1.size)=false:=decide_eq_false (by omega)
   clear c5
   (first|rw [c5b0]|(simp only [i64_w,i32_w]; rw [c5b0])|skip)
   have H':=zK H
   clear H
   go_wp2
   go_meet
   case rel=>exact ⟨_,(a1),(by first|rfl|(simp; done)|(simp [*]; done)),H',⟨by first|omega|exact Nat.le_refl _⟩,⟨by (with_reducible repeat (first|refine blk_drewN ?_ _|refine blk_drew ?_|refine blk_alloc ?_ _)); exact BK324.out⟩,⟨by repeat (first|(with_reducible first|exact HB.out|apply zA|apply zN|apply zD|refine below_set ?_ GE324.out)|exact HB.out)⟩⟩
  rw [if_pos c5] at H
  have c5b0:decide (64<(a1.size:Int))=true:=decide_eq_true c5
  have c5b1:decide (64<a1.size)=true:=decide_eq_true (by omega)
  clear c5
  (first|rw [c5b0]|(simp only [i64_w,i32_w]; rw [c5b0])|skip)
  replace H:=Option.bind_eq_some_iff.mp H
  obtain ⟨t325,A60,H⟩:=H
  replace H:(legateref03_Tables_Key.j0 k t325)=some r:=H
  have A6:=zK A60
  clear A60
  have H':=zK H
  clear H
  have hcz7_0:w4.cell? ⟨gb324,0,none⟩=some (.slice A0_0 l0_0.length c0_0):=(blk_cell BK324.out 0).trans rfl
  have hcz7_1:w4.cell? ⟨gb324,1,none⟩=some (.string a0_1):=(blk_cell BK324.out 1).trans rfl
  have hfz7_0:=blk_frozen BK324.out 0
  have hfz7_1:=blk_frozen BK324.out 1
  go_wp2_with (first|((with_reducible refine gate_callee (f:=69) rfl ?_); refine goesL_ (some 10) rfl rfl Tryd.func69 (by kernel_rfl) rfl #[.agg #[.slice A0_0 l0_0.length c0_0,.string a0_1],.string a1] rfl (by (try simp only [zm]); first|done|rfl|(simp only [zl]; rfl)) ?_; (with_reducible refine (legateref03_Tables_Sum.calls k _ _ l0_0 a0_1 a1 t325 _ ?side1 ?side2 A6.out).mono ?_); (case side1=>repeat (first|exact (Kd.C_below HR0_0.out HB.out)|(with_reducible refine Kd.C_alloc ?_ _)|(with_reducible refine Kd.C_drewN ?_ _)|(with_reducible refine Kd.C_drew ?_))); (case side2=>exact HC0_0.out); rintro e w8 ⟨rfl,hb⟩; refine ⟨_,rfl,?_⟩; have n0_:=zK (blk_below (g:=gb324) (o:=.cells #[.slice A0_0 l0_0.length c0_0,.string a0_1] 42 (0,0)) (by (with_reducible repeat (first|refine blk_drewN ?_ _|refine blk_drew ?_|refine blk_alloc ?_ _)); exact BK324.out) hb); have n1_:=zK (below_step (by repeat (first|(with_reducible first|exact HB.out|apply zA|apply zN|apply zD|refine below_set ?_ GE324.out)|exact HB.out)) hb); clear BK324; clear HB; have BK324:=n0_; have HB:=n1_; clear n0_ n1_; (try clear hb); (try clear hb2); (try clear hk); (try clear hi)))
  go_meet
  case rel=>exact ⟨_,(t325),(by first|rfl|(simp; done)|(simp [*]; done)),H',⟨by first|omega|exact Nat.le_refl _⟩,⟨by (with_reducible repeat (first|refine blk_drewN ?_ _|refine blk_drew ?_|refine blk_alloc ?_ _)); exact BK324.out⟩,⟨by repeat (first|(with_reducible first|exact HB.out|apply zA|apply zN|apply zD|refine below_set ?_ GE324.out)|exact HB.out)⟩⟩
 case rest =>
  clear HC3
  try clear p2
  try clear c3
  try clear c5
  try clear c5b0
  try clear c5b1
  try clear c6
  try clear hcz7_0
  try clear hcz7_1
  try clear hfz7_0
  try clear hfz7_1
  obtain ⟨kq,x1_2,rfl,HA,HJ2,BK324,HB⟩:=hcut
  cases kq with
  | zero=>exact absurd HA.out (by simp [legateref03_Tables_Key.j0])
  | succ kj2 =>
   have H:=HA.out
   clear HA
   simp only [legateref03_Tables_Key.j0] at H
   have H':=zK H
   clear H
   go_wp2
   go_loopg [1] kj2 (fun kq v1 w'=>∃ (x1_2:ByteArray),v1=.string x1_2∧Aside0 (legateref03_Tables_Key.l0 kq x1_2=some r)∧Aside0 (kq≤kj2)∧Aside0 (w'.heap[gb324]? = some (.cells #[(.slice A0_0 l0_0.length c0_0),.string a0_1] 42 (0,0)))∧Aside0 (Below w.heap.size w w'))
   case atStart=>exact ⟨(x1_2),(by first|rfl|(simp; done)|(simp [*]; done)),H',⟨Nat.le_refl _⟩,⟨by (with_reducible repeat (first|refine blk_drewN ?_ _|refine blk_drew ?_|refine blk_alloc ?_ _)); exact BK324.out⟩,⟨by repeat (first|(with_reducible first|exact HB.out|apply zA|apply zN|apply zD|refine below_set ?_ GE324.out)|exact HB.out)⟩⟩
   case round =>
    clear H'
    try clear p2
    try clear c3
    try clear c5
    try clear c5b0
    try clear c5b1
    try clear c6
    try clear hcz7_0
    try clear hcz7_1
    try clear hfz7_0
    try clear hfz7_1
    try clear p2
    obtain ⟨x1_2,rfl,HA,HK2,BK324,HB⟩:=hrel
    cases gk with
    | zero=>exact absurd HA.out (by simp [legateref03_Tables_Key.l0])
    | succ k2 =>
     have H:=HA.out
     clear HA
     simp only [legateref03_Tables_Key.l0] at H
     by_cases c9:(x1_2.size:Int)<64
     case neg =>
      rw [if_neg c9] at H
      have c9b0:decide ((x1_2.size:Int)<64)=false:=decide_eq_false c9
      have c9b1:decide (x1_2.size<64)=false:=decide_eq_false (by omega)
      clear c9
      obtain rfl:=Option.some.inj H
      go_wp2
      go_ret
      exact ⟨by first|rfl|(simp [errW_none,errW_some]<;>rfl)|(simp [*,errW_none,errW_some]<;>rfl),by repeat (first|(with_reducible first|exact HB.out|apply zA|apply zN|apply zD|refine below_set ?_ GE324.out)|exact HB.out)⟩
     rw [if_pos c9] at H
     have c9b0:decide ((x1_2.size:Int)<64)=true:=decide_eq_true c9
     have c9b1:decide (x1_2.size<64)=true:=decide_eq_true (by omega)
     clear c9
     by_cases c10:x1_2.size+1≤9223372036854775807
     case neg =>
      rw [if_neg c10] at H
      exact absurd H (by simp)
     rw [if_pos c10] at H
     have c10b0:=eq_true c10
     have c10b1:decide (x1_2.size+1≤9223372036854775807)=true:=decide_eq_true c10
     try have c10b2:(9223372036854775807<x1_2.size+1)=False:=eq_false (Nat.not_lt.2 c10)
     have H':=zK H
     clear H
     go_wp2
     go_roundg k2
     case measure=>have:=HJ2.out; have:=HK2.out; omega
     case rel=>exact ⟨(x1_2++(⟨#[0]⟩:ByteArray)),(by first|rfl|(simp; done)|(simp [*]; done)),H',⟨by have:=HJ2.out; have:=HK2.out; omega⟩,⟨by (with_reducible repeat (first|refine blk_drewN ?_ _|refine blk_drew ?_|refine blk_alloc ?_ _)); exact BK324.out⟩,⟨by repeat (first|(with_reducible first|exact HB.out|apply zA|apply zN|apply zD|refine below_set ?_ GE324.out)|exact HB.out)⟩⟩
def legateref03_Xor.l0:Nat→ByteArray→Int→List Int→Int→Option (ByteArray)
  | 0,_,_,_,_=>none
  | k+1,x0,x1,x5,x6=>if x6<(x0.size:Int) then (if 0≤x6 then (if x6<(x5.length:Int) then (legateref03_Xor.l0 k x0 x1 (x5.set (x6:Int).toNat (Go.bits .xor .u8 (bt x0 x6) x1)) (wrap64 (x6+1))) else (none)) else (none)) else (some (strOfNums x5))
def legateref03_Xor.f (k:Nat) (a0:ByteArray) (a1:Int):Option (ByteArray):=if 0≤(a0.size:Int) then (if ((a0.size:Int):Int).toNat≤281474976710656 then (legateref03_Xor.l0 k a0 a1 (List.replicate ((a0.size:Int):Int).toNat 0) 0) else (none)) else (none)
set_option maxHeartbeats 8000000 in
set_option maxRecDepth 100000 in
theorem legateref03_Xor.calls (k:Nat) (a0:ByteArray) (a1:Int) (r:ByteArray) (w:World) (h:legateref03_Xor.f k a0 a1=some r) :
 Calls Tryd.prog 70 #[.string a0,.int .u8 a1] w fun e w'=>e=.returned (.string r)∧Below w.heap.size w w':=by
 have HB:=zK (Below.refl w.heap.size w)
 have H:(if 0≤(a0.size:Int) then (if ((a0.size:Int):Int).toNat≤281474976710656 then (legateref03_Xor.l0 k a0 a1 (List.replicate ((a0.size:Int):Int).toNat 0) 0) else (none)) else (none))=some r:=h
 clear h
 by_cases c3:0≤(a0.size:Int)
 case neg =>
  rw [if_neg c3] at H
  exact absurd H (by simp)
 rw [if_pos c3] at H
 have c3b0:=eq_true c3
 have c3b1:decide (0≤(a0.size:Int))=true:=decide_eq_true c3
 clear c3
 by_cases c4:((a0.size:Int):Int).toNat≤281474976710656
 case neg =>
  rw [if_neg c4] at H
  exact absurd H (by simp)
 rw [if_pos c4] at H
 have c4b0:=eq_true c4
 have c4b1:decide (((a0.size:Int):Int).toNat≤281474976710656)=true:=decide_eq_true c4
 clear c4
 obtain ⟨y326,hy326⟩:∃ y_:List Int,y_=(List.replicate ((a0.size:Int):Int).toNat 0):=⟨_,rfl⟩
 replace H:(legateref03_Xor.l0 k a0 a1 y326 0)=some r:=by first|(rw [hy326]; with_reducible exact H)|(have H2_:=(Option.bind_some _ _).symm.trans H; rw [hy326]; with_reducible exact H2_)|(have H2_:=(Option.bind_some _ _).symm.trans H; with_reducible exact H2_)|with_reducible exact H|(rw [hy326]; exact H)|exact H
 have Ny326:=zK hy326
 clear hy326
 have H':=zK H
 clear H
 go_enter Tryd.func70,Tryd.ntmps70
 go_wp2_with (first|((with_reducible refine gate_dst (N:=9) rfl ?_); refine Kd.R_make (Kd.int .u8) _ 5 rfl (N:=9) rfl 44 _ _ rfl (a0.size:Int) rfl rfl Tryd.underlying44 (.int .u8 0) 1 info5 rfl (by decide) (by omega) 0 (ok:=fun _=>True) (okp:=fun _=>True) rfl (fun _ hk=>hk) trivial (of_decide_eq_true (by first|(with_reducible assumption)|assumption)) (Nat.le_trans (Nat.mul_le_mul_right _ (of_decide_eq_true (by first|(with_reducible assumption)|assumption):(a0.size:Int).toNat≤281474976710656)) (by omega)) (Below.refl _ _) (Nat.le_refl _) ?_; intro v327 w5 ho6 hb hg_ hnew_; clear hg_ hnew_; (first|rw [← Ny326.out] at ho6|(simp only [Int.reduceToNat] at ho6; rw [← Ny326.out] at ho6)); have n0_:=zK (Kd.R_lower ho6 (below_size (by repeat (first|(with_reducible first|exact HB.out|apply zA|apply zN|apply zD)|exact HB.out)))); have n1_:=zK (below_step (by repeat (first|(with_reducible first|exact HB.out|apply zA|apply zN|apply zD)|exact HB.out)) hb); clear HB; have HO328:=n0_; have HB:=n1_; clear n0_ n1_; clear hb ho6))
 go_loopg [6] k (fun kq v6 w'=>∃ (x5_1:List Int) (x6_1:Int),v6=.int .i64 x6_1∧Aside0 (legateref03_Xor.l0 kq a0 a1 x5_1 x6_1=some r)∧Aside0 (kq≤k)∧Aside0 (Kd.R (Kd.int .u8) 5 w' w.heap.size (fun _=>True) v327 x5_1)∧Aside0 (Below w.heap.size w w'))
 case atStart=>exact ⟨(y326),(0),(by first|rfl|(simp; done)|(simp [*]; done)),H',⟨Nat.le_refl _⟩,⟨by (with_reducible repeat (first|apply Kd.R_alloc|apply Kd.R_drewN|apply Kd.R_drew)); exact HO328.out⟩,⟨by repeat (first|(with_reducible first|exact HB.out|apply zA|apply zN|apply zD)|exact HB.out)⟩⟩
 case round =>
  clear H'
  try clear p2
  try clear c3
  try clear c3b0
  try clear c3b1
  try clear c4
  try clear c4b0
  try clear c4b1
  obtain ⟨x5_1,x6_1,rfl,HA,HK1,HO_5,HB⟩:=hrel
  cases gk with
  | zero=>exact absurd HA.out (by simp [legateref03_Xor.l0])
  | succ k1 =>
   have H:=HA.out
   clear HA
   simp only [legateref03_Xor.l0] at H
   by_cases c7:x6_1<(a0.size:Int)
   case neg =>
    rw [if_neg c7] at H
    have c7b0:decide (x6_1<(a0.size:Int))=false:=decide_eq_false c7
    clear c7
    obtain rfl:=Option.some.inj H
    have hcv14:=own_string (P:=Tryd.prog) Tryd.underlying44 Tryd.underlying5 Tryd.underlying9 (Kd.own_of_R HO_5.out)
    go_wp2
    go_ret
    exact ⟨by first|rfl|(simp [errW_none,errW_some]<;>rfl)|(simp [*,errW_none,errW_some]<;>rfl),by repeat (first|(with_reducible first|exact HB.out|apply zA|apply zN|apply zD)|exact HB.out)⟩
   rw [if_pos c7] at H
   have c7b0:decide (x6_1<(a0.size:Int))=true:=decide_eq_true c7
   clear c7
   by_cases c8:0≤x6_1
   case neg =>
    rw [if_neg c8] at H
    exact absurd H (by simp)
   rw [if_pos c8] at H
   have c8b0:decide (0≤x6_1)=true:=decide_eq_true c8
   clear c8
   by_cases c10:x6_1<(x5_1.length:Int)
   case neg =>
    rw [if_neg c10] at H
    exact absurd H (by simp)
   rw [if_pos c10] at H
   have c10b0:decide (x6_1<(x5_1.length:Int))=true:=decide_eq_true c10
   clear c10
   obtain ⟨y329,hy329⟩:∃ y_:List Int,y_=(x5_1.set (x6_1:Int).toNat (Go.bits .xor .u8 (bt a0 x6_1) a1)):=⟨_,rfl⟩
   replace H:(legateref03_Xor.l0 k1 a0 a1 y329 (wrap64 (x6_1+1)))=some r:=by first|(rw [hy329]; with_reducible exact H)|(have H2_:=(Option.bind_some _ _).symm.trans H; rw [hy329]; with_reducible exact H2_)|(have H2_:=(Option.bind_some _ _).symm.trans H; with_reducible exact H2_)|with_reducible exact H|(rw [hy329]; exact H)|exact H
   have Ny329:=zK hy329
   clear hy329
   have H':=zK H
   clear H
   have p9:0≤(x6_1:Int):=of_decide_eq_true (by first|(with_reducible assumption)|assumption)
   have q9:x6_1<(a0.size:Int):=of_decide_eq_true (by first|(with_reducible assumption)|assumption)
   have hx9:=bt_at a0 x6_1
   replace p9:=eq_true p9
   replace q9:=eq_true q9
   have p11:0≤(x6_1:Int):=of_decide_eq_true (by first|(with_reducible assumption)|assumption)
   have q11:(x6_1:Int)<((x5_1.length:Int):Int):=of_decide_eq_true (by first|(with_reducible assumption)|assumption)
   obtain ⟨go11,co11,eo11,gb11,gl11,cl11,HG11⟩:=Kd.R_form HO_5.out (by omega)
   (first|cases eo11|(injection eo11 with ea_ en_ ec_; (first|subst ea_|(injection ea_ with ea_; subst ea_)); subst ec_; clear en_))
   have GB11:=zK gb11
   have GG11:=zK HG11
   clear gb11 gl11 HG11
   obtain ⟨hx11_0,hf11_0⟩:=Kd.R_celln 0 HO_5.out (x6_1:Int) p11 q11
   replace p11:=eq_true p11
   replace q11:=eq_true q11
   have HP12:=Kd.R_putg HO_5.out (x6_1:Int) (Go.bits .xor .u8 (bt a0 x6_1) a1)
   go_wp2_with (first|((with_reducible refine gate_store (t:=5) (p:=23) rfl ?_); refine store_event (t:=5) (p:=23) (v:=?vo_w13) (w1:=(wr.setCell ⟨go11,(x6_1:Int).toNat,none⟩ (.int .u8 (Go.bits .xor .u8 (bt a0 x6_1) a1)))) ?hg ?ho ?hn ?hr ?_; (case ho=>rfl); (case hg=>rfl); (case hn=>rfl); (case hr=>first|(go_simp; done)|(go_simp; rfl)); intro w13 hw; have hg:wr.grownBy w13 (some go11):=(by rw [hw]; exact HP12.2); have hp_:Kd.R (Kd.int .u8) 5 w13 w.heap.size (fun _=>True) (.slice (some ⟨go11,0,none⟩) x5_1.length co11) y329:=(by rw [hw,Ny329.out]; exact HP12.1); clear HP12; have n0_:=zK (hp_); have n1_:=zK ((by rw [hw]; exact below_set (HB.out) GB11.out:Below w.heap.size w w13)); clear HO_5; clear HB; have HO_5:=n0_; have HB:=n1_; clear n0_ n1_; clear hg hw hp_))
   go_roundg k1
   case measure=>have:=HK1.out; omega
   case rel=>exact ⟨(y329),(wrap64 (x6_1+1)),(by first|rfl|(simp; done)|(simp [*]; done)),H',⟨by have:=HK1.out; omega⟩,⟨by (with_reducible repeat (first|apply Kd.R_alloc|apply Kd.R_drewN|apply Kd.R_drew)); exact HO_5.out⟩,⟨by repeat (first|(with_reducible first|exact HB.out|apply zA|apply zN|apply zD)|exact HB.out)⟩⟩
def legateref03_Tables_Mac.f (k:Nat) (l0_0:List Int) (a0_1:ByteArray) (a1:ByteArray) (a2:ByteArray):Option (ByteArray):=(legateref03_Tables_Key.f k l0_0 a0_1 a1).bind fun t331=>((legateref03_Xor.f k t331 92).bind fun t332=>((legateref03_Xor.f k t331 54).bind fun t333=>(if t333.size+a2.size≤9223372036854775807 then ((legateref03_Tables_Sum.f k l0_0 a0_1 (t333++a2)).bind fun t334=>(if t332.size+t334.size≤9223372036854775807 then ((legateref03_Tables_Sum.f k l0_0 a0_1 (t332++t334)).bind fun t335=>(some t335)) else (none))) else (none))))
def legateref03_Tables_Mac.T2:Bool×List (List Nat×List Nat):=(true,[([],[]),([],[]),([1],[1]),([],[]),([],[]),([4,2],[4]),([],[]),([5,6],[5,6]),([3,7,5],[3,7]),([2,8],[2,8]),([0,9,8],[0,9]),([10,10,0,1,2,3,4,5,6,7,8,9,10],[10])])
def legateref03_Tables_Mac.B2:List Nat:=[0,0,2,0,0,22,0,118,254,510,1023,2047]
theorem legateref03_Tables_Mac.tab2:rtab .any (opsOf Tryd.f36 2)=legateref03_Tables_Mac.T2:=by kernel_rfl
theorem legateref03_Tables_Mac.bits2:waitsOk legateref03_Tables_Mac.T2.2 legateref03_Tables_Mac.B2=true:=by kernel_rfl
set_option maxHeartbeats 8000000 in
set_option maxRecDepth 100000 in
theorem legateref03_Tables_Mac.calls (k:Nat) (A0_0:Option Addr) (c0_0:Nat) (l0_0:List Int) (a0_1:ByteArray) (a1:ByteArray) (a2:ByteArray) (r:ByteArray) (w:World) (hr0_0:Kd.C (Kd.int .i64) w A0_0 l0_0.length l0_0) (hc0_0:l0_0.length≤c0_0) (h:legateref03_Tables_Mac.f k l0_0 a0_1 a1 a2=some r) :
 Calls Tryd.prog 36 #[.agg #[.slice A0_0 l0_0.length c0_0,.string a0_1],.string a1,.string a2] w fun e w'=>e=.returned (.string r)∧Below w.heap.size w w':=by
 have hu42:=Tryd.underlying42
 have HR0_0:=zK hr0_0
 have HC0_0:=zK hc0_0
 clear hr0_0 hc0_0
 have HB:=zK (Below.refl w.heap.size w)
 have H:((legateref03_Tables_Key.f k l0_0 a0_1 a1).bind fun t331=>((legateref03_Xor.f k t331 92).bind fun t332=>((legateref03_Xor.f k t331 54).bind fun t333=>(if t333.size+a2.size≤9223372036854775807 then ((legateref03_Tables_Sum.f k l0_0 a0_1 (t333++a2)).bind fun t334=>(if t332.size+t334.size≤9223372036854775807 then ((legateref03_Tables_Sum.f k l0_0 a0_1 (t332++t334)).bind fun t335=>(some t335)) else (none))) else (none)))))=some r:=h
 clear h
 replace H:=Option.bind_eq_some_iff.mp H
 obtain ⟨t331,A40,H⟩:=H
 replace H:((legateref03_Xor.f k t331 92).bind fun t332=>((legateref03_Xor.f k t331 54).bind fun t333=>(if t333.size+a2.size≤9223372036854775807 then ((legateref03_Tables_Sum.f k l0_0 a0_1 (t333++a2)).bind fun t334=>(if t332.size+t334.size≤9223372036854775807 then ((legateref03_Tables_Sum.f k l0_0 a0_1 (t332++t334)).bind fun t335=>(some t335)) else (none))) else (none))))=some r:=H
 have A4:=zK A40
 clear A40
 replace H:=Option.bind_eq_some_iff.mp H
 obtain ⟨t332,A50,H⟩:=H
 replace H:((legateref03_Xor.f k t331 54).bind fun t333=>(if t333.size+a2.size≤9223372036854775807 then ((legateref03_Tables_Sum.f k l0_0 a0_1 (t333++a2)).bind fun t334=>(if t332.size+t334.size≤9223372036854775807 then ((legateref03_Tables_Sum.f k l0_0 a0_1 (t332++t334)).bind fun t335=>(some t335)) else (none))) else (none)))=some r:=H
 have A5:=zK A50
 clear A50
 replace H:=Option.bind_eq_some_iff.mp H
 obtain ⟨t333,A60,H⟩:=H
 replace H:(if t333.size+a2.size≤9223372036854775807 then ((legateref03_Tables_Sum.f k l0_0 a0_1 (t333++a2)).bind fun t334=>(if t332.size+t334.size≤9223372036854775807 then ((legateref03_Tables_Sum.f k l0_0 a0_1 (t332++t334)).bind fun t335=>(some t335)) else (none))) else (none))=some r:=H
 have A6:=zK A60
 clear A60
 by_cases c7:t333.size+a2.size≤9223372036854775807
 case neg =>
  rw [if_neg c7] at H
  exact absurd H (by simp)
 rw [if_pos c7] at H
 have c7b0:=eq_true c7
 have c7b0z:=c7b0
 (try simp only [ByteArray.size_append,Int.natCast_add] at c7b0z)
 have c7b1:decide (t333.size+a2.size≤9223372036854775807)=true:=decide_eq_true c7
 have c7b1z:=c7b1
 (try simp only [ByteArray.size_append,Int.natCast_add] at c7b1z)
 try have c7b2:(9223372036854775807<t333.size+a2.size)=False:=eq_false (Nat.not_lt.2 c7)
 replace H:=Option.bind_eq_some_iff.mp H
 obtain ⟨t334,A80,H⟩:=H
 replace H:(if t332.size+t334.size≤9223372036854775807 then ((legateref03_Tables_Sum.f k l0_0 a0_1 (t332++t334)).bind fun t335=>(some t335)) else (none))=some r:=H
 have A8:=zK A80
 clear A80
 by_cases c9:t332.size+t334.size≤9223372036854775807
 case neg =>
  rw [if_neg c9] at H
  exact absurd H (by simp)
 rw [if_pos c9] at H
 have c9b0:=eq_true c9
 have c9b0z:=c9b0
 (try simp only [ByteArray.size_append,Int.natCast_add] at c9b0z)
 have c9b1:decide (t332.size+t334.size≤9223372036854775807)=true:=decide_eq_true c9
 have c9b1z:=c9b1
 (try simp only [ByteArray.size_append,Int.natCast_add] at c9b1z)
 try have c9b2:(9223372036854775807<t332.size+t334.size)=False:=eq_false (Nat.not_lt.2 c9)
 replace H:=Option.bind_eq_some_iff.mp H
 obtain ⟨t335,A100,H⟩:=H
 replace H:(some t335)=some r:=H
 have A10:=zK A100
 clear A100
 obtain rfl:=Option.some.inj H
 go_enter Tryd.func36,Tryd.ntmps36
 try go_wp2_with (first|((with_reducible refine gate_dst (N:=3) rfl ?_); refine box_event ?hg (N:=3) ?hd (cs:=#[.slice A0_0 l0_0.length c0_0,.string a0_1]) (t:=42) ?hr ?_; (case hd=>rfl); (case hg=>rfl); (case hr=>first|(go_simp; done)|(go_simp; rfl)); intro gb330 hg w11 hbox hb; have n0_:=zK (below_step (by repeat (first|(with_reducible first|exact HB.out|apply zA|apply zN|apply zD)|exact HB.out)) hb); have n1_:=zK (hbox); have n2_:=zK ((by rw [hg]; exact (below_size (by repeat (first|(with_reducible first|exact HB.out|apply zA|apply zN|apply zD)|exact HB.out))):w.heap.size≤gb330)); have n3_:=zK ((by rw [hg]; exact (below_size (by repeat (first|(with_reducible first|exact HB.out|apply zA|apply zN|apply zD)|exact HB.out))):w.heap.size≤gb330)); clear HB; have HB:=n0_; have BK330:=n1_; have GW330:=n2_; have GE330:=n3_; clear n0_ n1_ n2_ n3_; clear hb hbox hg; have hcz12_0:w11.cell? ⟨gb330,0,none⟩=some (.slice A0_0 l0_0.length c0_0):=(blk_cell BK330.out 0).trans rfl; have hcz12_1:w11.cell? ⟨gb330,1,none⟩=some (.string a0_1):=(blk_cell BK330.out 1).trans rfl; have hfz12_0:=blk_frozen BK330.out 0; have hfz12_1:=blk_frozen BK330.out 1)|((with_reducible refine gate_callee (f:=38) rfl ?_); refine goesL_ (some 10) rfl rfl Tryd.func38 (by kernel_rfl) rfl #[.agg #[.slice A0_0 l0_0.length c0_0,.string a0_1],.string a1] rfl (by (try simp only [zm]); first|done|rfl|(simp only [zl]; rfl)) ?_; (with_reducible refine (legateref03_Tables_Key.calls k _ _ l0_0 a0_1 a1 t331 _ ?side1 ?side2 A4.out).mono ?_); (case side1=>repeat (first|exact (Kd.C_below HR0_0.out HB.out)|(with_reducible refine Kd.C_alloc ?_ _)|(with_reducible refine Kd.C_drewN ?_ _)|(with_reducible refine Kd.C_drew ?_))); (case side2=>exact HC0_0.out); rintro e w13 ⟨rfl,hb⟩; refine ⟨_,rfl,?_⟩; have n0_:=zK (blk_below (g:=gb330) (o:=.cells #[.slice A0_0 l0_0.length c0_0,.string a0_1] 42 (0,0)) (by (with_reducible repeat (first|refine blk_drewN ?_ _|refine blk_drew ?_|refine blk_alloc ?_ _)); exact BK330.out) hb); have n1_:=zK (below_step (by repeat (first|(with_reducible first|exact HB.out|apply zA|apply zN|apply zD|refine below_set ?_ GE330.out)|exact HB.out)) hb); clear BK330; clear HB; have BK330:=n0_; have HB:=n1_; clear n0_ n1_; (try clear hb); (try clear hb2); (try clear hk); (try clear hi)))
 have n0_:=zK (blk_drew BK330.out)
 have n1_:=zK (zD HB.out)
 clear BK330
 clear HB
 have BK330:=n0_
 have HB:=n1_
 clear n0_ n1_
 refine start_ (n:=12) (S:=fun w'=>w'.cell? ⟨gb330,0,none⟩=some (.slice A0_0 l0_0.length c0_0)∧w'.cell? ⟨gb330,1,none⟩=some (.string a0_1)) (ds:=[]) #[G,G,G,G,G,G,G,G,G,G,G,G] (by kernel_rfl) rfl rfl ⟨(blk_cell BK330.out 0).trans rfl,(blk_cell BK330.out 1).trans rfl⟩ (fun hHeld=>?_); refine with_tabW legateref03_Tables_Mac.tab2 legateref03_Tables_Mac.bits2 (fun HT_ HW_=>?_)
 generalize w13.drew=w14 at BK330 HB hHeld ⊢
 refine zq 1 (some 12) ?_ #[G,O,G,G,G,G,G,G,G,G,G,G] rfl rfl (any_of HT_.out (by kernel_rfl)) (fun _ _ _ h=>h) (Or.inl ⟨by rfl,?_⟩) ?_ ?_ ?_
 rotate_left;(intro w';go_simp;with_reducible rfl);rotate_left;(simp only [Act.put,zp];rfl)
 refine zq 4 (some 15) ?_ #[G,O,G,G,O,G,G,G,G,G,G,G] rfl rfl (any_of HT_.out (by kernel_rfl)) (fun _ _ _ h=>h) (Or.inl ⟨by rfl,?_⟩) ?_ ?_ ?_
 rotate_left;(intro w';go_simp;with_reducible rfl);rotate_left;(simp only [Act.put,zp];rfl)
 refine zq 6 (some 17) ?_ #[G,O,G,G,O,G,O,G,G,G,G,G] rfl rfl (any_of HT_.out (by kernel_rfl)) (fun _ _ _ h=>h) (Or.inl ⟨by rfl,?_⟩) ?_ ?_ ?_
 rotate_left;(intro w';go_simp;with_reducible rfl);rotate_left;(simp only [Act.put,zp];rfl)
 refine take_ (i:=0) (N:=some 11) (v:=?_) (a':=?_) #[O,O,G,G,O,G,O,G,G,G,G,G] rfl rfl (take_ofW HT_.out HW_.out (by kernel_rfl)) (fun _ _ _ h=>h) (Or.inl ⟨by rfl,?_⟩) hHeld ?_ ?_
 rotate_left
 ·rintro w' ⟨s0,s1⟩
  go_simp
  with_reducible rfl
 rotate_left
 ·simp only [Act.put,zp]
  rfl
 refine take_ (i:=3) (N:=some 14) (v:=?_) (a':=?_) #[O,O,G,O,O,G,O,G,G,G,G,G] rfl rfl (take_ofW HT_.out HW_.out (by kernel_rfl)) (fun _ _ _ h=>h) (Or.inl ⟨by rfl,?_⟩) hHeld ?_ ?_
 rotate_left
 ·rintro w' ⟨s0,s1⟩
  go_simp
  with_reducible rfl
 rotate_left
 ·simp only [Act.put,zp]
  rfl
 refine one_ (i:=2) (N:=some 13) #[O,O,O,O,O,G,O,G,G,G,G,G] rfl rfl (one_of HT_.out (by kernel_rfl)) (by decide) (fun K hK=>?_)
 refine goes_ Tryd.func70 (by kernel_rfl) rfl #[.string t331,.int .u8 92] (by rfl) rfl rfl (by (try simp only [zm]); first|done|rfl|(simp only [zl]; rfl)) ?_
 with_reducible refine (legateref03_Xor.calls k t331 92 t332 _ A5.out).mono ?_
 rintro e w15 ⟨rfl,hb⟩
 refine ⟨_,rfl,?_⟩
 have n0_:=zK (blk_below (g:=gb330) (o:=.cells #[.slice A0_0 l0_0.length c0_0,.string a0_1] 42 (0,0)) (by (with_reducible repeat (first|refine blk_drewN ?_ _|refine blk_drew ?_|refine blk_alloc ?_ _)); exact BK330.out) hb)
 have n1_:=zK (below_step (by repeat (first|(with_reducible first|exact HB.out|apply zA|apply zN|apply zD|refine below_set ?_ GE330.out)|exact HB.out)) hb)
 clear BK330
 clear HB
 have BK330:=n0_
 have HB:=n1_
 clear n0_ n1_
 (try clear hb)
 (try clear hb2)
 (try clear hk)
 (try clear hi)
 refine hK.out _ _ ⟨(blk_cell BK330.out 0).trans rfl,(blk_cell BK330.out 1).trans rfl⟩ (fun hHeld=>?_)
 clear hK K
 refine norm_ (a':=?_) ?_ ?_
 rotate_left
 ·show Act.put _ (some 13) _=_
  simp only [Act.put,zp]
  rfl
 refine one_ (i:=5) (N:=some 16) #[O,O,O,O,O,O,O,G,G,G,G,G] rfl rfl (one_of HT_.out (by kernel_rfl)) (by decide) (fun K hK=>?_)
 refine goes_ Tryd.func70 (by kernel_rfl) rfl #[.string t331,.int .u8 54] (by rfl) rfl rfl (by (try simp only [zm]); first|done|rfl|(simp only [zl]; rfl)) ?_
 with_reducible refine (legateref03_Xor.calls k t331 54 t333 _ A6.out).mono ?_
 rintro e w16 ⟨rfl,hb⟩
 refine ⟨_,rfl,?_⟩
 have n0_:=zK (blk_below (g:=gb330) (o:=.cells #[.slice A0_0 l0_0.length c0_0,.string a0_1] 42 (0,0)) (by (with_reducible repeat (first|refine blk_drewN ?_ _|refine blk_drew ?_|refine blk_alloc ?_ _)); exact BK330.out) hb)
 have n1_:=zK (below_step (by repeat (first|(with_reducible first|exact HB.out|apply zA|apply zN|apply zD|refine below_set ?_ GE330.out)|exact HB.out)) hb)
 clear BK330
 clear HB
 have BK330:=n0_
 have HB:=n1_
 clear n0_ n1_
 (try clear hb)
 (try clear hb2)
 (try clear hk)
 (try clear hi)
 refine hK.out _ _ ⟨(blk_cell BK330.out 0).trans rfl,(blk_cell BK330.out 1).trans rfl⟩ (fun hHeld=>?_)
 clear hK K
 refine norm_ (a':=?_) ?_ ?_
 rotate_left
 ·show Act.put _ (some 16) _=_
  simp only [Act.put,zp]
  rfl
 refine zq 7 (some 18) ?_ #[O,O,O,O,O,O,O,O,G,G,G,G] rfl rfl (any_of HT_.out (by kernel_rfl)) (fun _ _ _ h=>h) (Or.inl ⟨by rfl,?_⟩) ?_ ?_ ?_
 rotate_left;(intro w';go_simp;with_reducible rfl);rotate_left;(simp only [Act.put,zp];rfl)
 refine one_ (i:=8) (N:=some 19) #[O,O,O,O,O,O,O,O,O,G,G,G] rfl rfl (one_of HT_.out (by kernel_rfl)) (by decide) (fun K hK=>?_)
 refine goes_ Tryd.func69 (by kernel_rfl) rfl #[.agg #[.slice A0_0 l0_0.length c0_0,.string a0_1],.string (t333++a2)] (by rfl) rfl rfl (by (try simp only [zm]); first|done|rfl|(simp only [zl]; rfl)) ?_
 with_reducible refine (legateref03_Tables_Sum.calls k _ _ l0_0 a0_1 (t333++a2) t334 _ ?side1 ?side2 A8.out).mono ?_
 (case side1=>repeat (first|exact (Kd.C_below HR0_0.out HB.out)|(with_reducible refine Kd.C_alloc ?_ _)|(with_reducible refine Kd.C_drewN ?_ _)|(with_reducible refine Kd.C_drew ?_)))
 (case side2=>exact HC0_0.out)
 rintro e w17 ⟨rfl,hb⟩
 refine ⟨_,rfl,?_⟩
 have n0_:=zK (blk_below (g:=gb330) (o:=.cells #[.slice A0_0 l0_0.length c0_0,.string a0_1] 42 (0,0)) (by (with_reducible repeat (first|refine blk_drewN ?_ _|refine blk_drew ?_|refine blk_alloc ?_ _)); exact BK330.out) hb)
 have n1_:=zK (below_step (by repeat (first|(with_reducible first|exact HB.out|apply zA|apply zN|apply zD|refine below_set ?_ GE330.out)|exact HB.out)) hb)
 clear BK330
 clear HB
 have BK330:=n0_
 have HB:=n1_
 clear n0_ n1_
 (try clear hb)
 (try clear hb2)
 (try clear hk)
 (try clear hi)
 refine hK.out _ _ ⟨(blk_cell BK330.out 0).trans rfl,(blk_cell BK330.out 1).trans rfl⟩ (fun hHeld=>?_)
 clear hK K
 refine norm_ (a':=?_) ?_ ?_
 rotate_left
 ·show Act.put _ (some 19) _=_
  simp only [Act.put,zp]
  rfl
 refine zq 9 (some 20) ?_ #[O,O,O,O,O,O,O,O,O,O,G,G] rfl rfl (any_of HT_.out (by kernel_rfl)) (fun _ _ _ h=>h) (Or.inl ⟨by rfl,?_⟩) ?_ ?_ ?_
 rotate_left;(intro w';go_simp;with_reducible rfl);rotate_left;(simp only [Act.put,zp];rfl)
 refine one_ (i:=10) (N:=some 21) #[O,O,O,O,O,O,O,O,O,O,O,G] rfl rfl (one_of HT_.out (by kernel_rfl)) (by decide) (fun K hK=>?_)
 refine goes_ Tryd.func69 (by kernel_rfl) rfl #[.agg #[.slice A0_0 l0_0.length c0_0,.string a0_1],.string (t332++t334)] (by rfl) rfl rfl (by (try simp only [zm]); first|done|rfl|(simp only [zl]; rfl)) ?_
 with_reducible refine (legateref03_Tables_Sum.calls k _ _ l0_0 a0_1 (t332++t334) t335 _ ?side1 ?side2 A10.out).mono ?_
 (case side1=>repeat (first|exact (Kd.C_below HR0_0.out HB.out)|(with_reducible refine Kd.C_alloc ?_ _)|(with_reducible refine Kd.C_drewN ?_ _)|(with_reducible refine Kd.C_drew ?_)))
 (case side2=>exact HC0_0.out)
 rintro e w18 ⟨rfl,hb⟩
 refine ⟨_,rfl,?_⟩
 have n0_:=zK (blk_below (g:=gb330) (o:=.cells #[.slice A0_0 l0_0.length c0_0,.string a0_1] 42 (0,0)) (by (with_reducible repeat (first|refine blk_drewN ?_ _|refine blk_drew ?_|refine blk_alloc ?_ _)); exact BK330.out) hb)
 have n1_:=zK (below_step (by repeat (first|(with_reducible first|exact HB.out|apply zA|apply zN|apply zD|refine below_set ?_ GE330.out)|exact HB.out)) hb)
 clear BK330
 clear HB
 have BK330:=n0_
 have HB:=n1_
 clear n0_ n1_
 (try clear hb)
 (try clear hb2)
 (try clear hk)
 (try clear hi)
 refine hK.out _ _ ⟨(blk_cell BK330.out 0).trans rfl,(blk_cell BK330.out 1).trans rfl⟩ (fun hHeld=>?_)
 clear hK K
 refine norm_ (a':=?_) ?_ ?_
 rotate_left
 ·show Act.put _ (some 21) _=_
  simp only [Act.put,zp]
  rfl
 refine zq 11 (some 6) ?_ #[O,O,O,O,O,O,O,O,O,O,O,O] rfl rfl (any_of HT_.out (by kernel_rfl)) (fun _ _ _ h=>h) (Or.inl ⟨by rfl,?_⟩) ?_ ?_ ?_
 rotate_left;(intro w';go_simp;with_reducible rfl);rotate_left;(simp only [Act.put,zp];rfl)
 refine done_ (done_of HT_.out (by kernel_rfl)) ?_
 try go_wp2
 go_ret
 exact ⟨by first|rfl|(simp [errW_none,errW_some]<;>rfl)|(simp [*,errW_none,errW_some]<;>rfl),by repeat (first|(with_reducible first|exact HB.out|apply zA|apply zN|apply zD|refine below_set ?_ GE330.out)|exact HB.out)⟩
end Go.Proofs.YtkgijkfcmbpgpaaDoor.PAll
end
