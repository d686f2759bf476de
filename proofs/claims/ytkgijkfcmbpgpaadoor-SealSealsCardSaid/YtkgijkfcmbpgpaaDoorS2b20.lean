import Derived.Test.YtkgijkfcmbpgpaaDoorS2b0
import Derived.Test.YtkgijkfcmbpgpaaDoorS2b1
import Derived.Test.YtkgijkfcmbpgpaaDoorS2b18
import Derived.Test.YtkgijkfcmbpgpaaDoorS2b19
import Derived.Test.YtkgijkfcmbpgpaaDoorS2b2
section
namespace Go.Proofs.YtkgijkfcmbpgpaaDoor.PAll
open Go.RowKit Go.Proofs.YtkgijkfcmbpgpaaDoorW.PrintWords Go.Proofs.YtkgijkfcmbpgpaaDoorW.PrintLast Go.Proofs.YtkgijkfcmbpgpaaDoorW.PrintMore
attribute [local go_sem] max2_int min2_int max_two min_two max_three min_three max_four min_four
set_option linter.unusedVariables false
set_option linter.unusedSimpArgs false
mutual
def legateref04_Encrypt.j0:Nat→List Int→ByteArray→ByteArray→Bool→Option (ByteArray)
  | 0,_,_,_,_=>none
  | k+1,x0,x1,x2,x25=>if x25=true then (some (⟨#[]⟩:ByteArray)) else ((legateref04_Expand.f k x0 x1).bind fun t465=>(if 16≤281474976710656 then (legateref04_Encrypt.l0 k x0 x2 t465 (List.replicate 16 0) 0) else (none)))
def legateref04_Encrypt.l0:Nat→List Int→ByteArray→ByteArray→List Int→Int→Option (ByteArray)
  | 0,_,_,_,_,_=>none
  | k+1,x0,x2,x7,x8,x9=>if x9<16 then (if 0≤x9 then (if x9<(x2.size:Int) then (if x9<(x7.size:Int) then (if x9<(x8.length:Int) then (legateref04_Encrypt.l0 k x0 x2 x7 (x8.set (x9:Int).toNat (Go.bits .xor .u8 (bt x2 x9) (bt x7 x9))) (wrap64 (x9+1))) else (none)) else (none)) else (none)) else (none)) else (legateref04_Encrypt.l1 k x0 x7 x8 1)
def legateref04_Encrypt.l1:Nat→List Int→ByteArray→List Int→Int→Option (ByteArray)
  | 0,_,_,_,_=>none
  | k+1,x0,x7,x8,x10=>if x10≤10 then (if 16≤281474976710656 then (legateref04_Encrypt.l2 k x0 x7 x8 x10 (List.replicate 16 0) 0) else (none)) else (some (strOfNums x8))
def legateref04_Encrypt.l2:Nat→List Int→ByteArray→List Int→Int→List Int→Int→Option (ByteArray)
  | 0,_,_,_,_,_,_=>none
  | k+1,x0,x7,x8,x10,x11,x12=>if x12<4 then (legateref04_Encrypt.l3 k x0 x7 x8 x10 x11 x12 0) else (if 16≤281474976710656 then (legateref04_Encrypt.l4 k x0 x7 x8 x10 x11 (List.replicate 16 0) 0) else (none))
def legateref04_Encrypt.l3:Nat→List Int→ByteArray→List Int→Int→List Int→Int→Int→Option (ByteArray)
  | 0,_,_,_,_,_,_,_=>none
  | k+1,x0,x7,x8,x10,x11,x12,x13=>if x13<4 then (if 0≤(wrap64 ((wrap64 (4 * (Int.tmod (wrap64 (x12+x13)) 4)))+x13)) then (if (wrap64 ((wrap64 (4 * (Int.tmod (wrap64 (x12+x13)) 4)))+x13))<(x8.length:Int) then (if 0≤(rd x8 (wrap64 ((wrap64 (4 * (Int.tmod (wrap64 (x12+x13)) 4)))+x13))) then (if (rd x8 (wrap64 ((wrap64 (4 * (Int.tmod (wrap64 (x12+x13)) 4)))+x13)))<(x0.length:Int) then (if 0≤(wrap64 ((wrap64 (4 * x12))+x13)) then (if (wrap64 ((wrap64 (4 * x12))+x13))<(x11.length:Int) then (legateref04_Encrypt.l3 k x0 x7 x8 x10 (x11.set ((wrap64 ((wrap64 (4 * x12))+x13)):Int).toNat (rd x0 (rd x8 (wrap64 ((wrap64 (4 * (Int.tmod (wrap64 (x12+x13)) 4)))+x13))))) x12 (wrap64 (x13+1))) else (none)) else (none)) else (none)) else (none)) else (none)) else (none)) else (legateref04_Encrypt.l2 k x0 x7 x8 x10 x11 (wrap64 (x12+1)))
def legateref04_Encrypt.l4:Nat→List Int→ByteArray→List Int→Int→List Int→List Int→Int→Option (ByteArray)
  | 0,_,_,_,_,_,_,_=>none
  | k+1,x0,x7,x8,x10,x11,x14,x15=>if x15<4 then (legateref04_Encrypt.l5 k x0 x7 x8 x10 x11 x14 x15 0) else (legateref04_Encrypt.l6 k x0 x7 x8 x10 x14 0)
def legateref04_Encrypt.l5:Nat→List Int→ByteArray→List Int→Int→List Int→List Int→Int→Int→Option (ByteArray)
  | 0,_,_,_,_,_,_,_,_=>none
  | k+1,x0,x7,x8,x10,x11,x14,x15,x16=>if x16<4 then (if 0≤(wrap64 ((wrap64 (4 * x15))+x16)) then (if (wrap64 ((wrap64 (4 * x15))+x16))<(x11.length:Int) then (if (wrap64 ((wrap64 (4 * x15))+x16))<(x14.length:Int) then ((some (x14.set ((wrap64 ((wrap64 (4 * x15))+x16)):Int).toNat (rd x11 (wrap64 ((wrap64 (4 * x15))+x16))):List Int)).bind fun y480=>(if x10<10 then ((legateref04_Times.f k (rd x11 (wrap64 ((wrap64 (4 * x15))+x16))) 2).bind fun t482=>(if 0≤(wrap64 ((wrap64 (4 * x15))+(Int.tmod (wrap64 (x16+1)) 4))) then (if (wrap64 ((wrap64 (4 * x15))+(Int.tmod (wrap64 (x16+1)) 4)))<(x11.length:Int) then ((legateref04_Times.f k (rd x11 (wrap64 ((wrap64 (4 * x15))+(Int.tmod (wrap64 (x16+1)) 4)))) 3).bind fun t484=>(if 0≤(wrap64 ((wrap64 (4 * x15))+(Int.tmod (wrap64 (x16+2)) 4))) then (if (wrap64 ((wrap64 (4 * x15))+(Int.tmod (wrap64 (x16+2)) 4)))<(x11.length:Int) then (if 0≤(wrap64 ((wrap64 (4 * x15))+(Int.tmod (wrap64 (x16+3)) 4))) then (if (wrap64 ((wrap64 (4 * x15))+(Int.tmod (wrap64 (x16+3)) 4)))<(x11.length:Int) then (legateref04_Encrypt.l5 k x0 x7 x8 x10 x11 (y480.set ((wrap64 ((wrap64 (4 * x15))+x16)):Int).toNat (Go.bits .xor .u8 (Go.bits .xor .u8 (Go.bits .xor .u8 t482 t484) (rd x11 (wrap64 ((wrap64 (4 * x15))+(Int.tmod (wrap64 (x16+2)) 4))))) (rd x11 (wrap64 ((wrap64 (4 * x15))+(Int.tmod (wrap64 (x16+3)) 4)))))) x15 (wrap64 (x16+1))) else (none)) else (none)) else (none)) else (none))) else (none)) else (none))) else (legateref04_Encrypt.l5 k x0 x7 x8 x10 x11 y480 x15 (wrap64 (x16+1))))) else (none)) else (none)) else (none)) else (legateref04_Encrypt.l4 k x0 x7 x8 x10 x11 x14 (wrap64 (x15+1)))
def legateref04_Encrypt.l6:Nat→List Int→ByteArray→List Int→Int→List Int→Int→Option (ByteArray)
  | 0,_,_,_,_,_,_=>none
  | k+1,x0,x7,x8,x10,x14,x17=>if x17<16 then (if 0≤x17 then (if x17<(x14.length:Int) then (if 0≤(wrap64 ((wrap64 (16 * x10))+x17)) then (if (wrap64 ((wrap64 (16 * x10))+x17))<(x7.size:Int) then (if x17<(x8.length:Int) then (legateref04_Encrypt.l6 k x0 x7 (x8.set (x17:Int).toNat (Go.bits .xor .u8 (rd x14 x17) (bt x7 (wrap64 ((wrap64 (16 * x10))+x17))))) x10 x14 (wrap64 (x17+1))) else (none)) else (none)) else (none)) else (none)) else (none)) else (legateref04_Encrypt.l1 k x0 x7 x8 (wrap64 (x10+1)))
end
def legateref04_Encrypt.f (k:Nat) (l0:List Int) (a1:ByteArray) (a2:ByteArray):Option (ByteArray):=if (a1.size:Int)=16 then (legateref04_Encrypt.j0 k l0 a1 a2 ((a2.size:Int) != 16)) else (legateref04_Encrypt.j0 k l0 a1 a2 true)
def legateref04_Encrypt.T8:Bool×List (List Nat×List Nat):=(true,[([],[]),([],[]),([],[]),([],[]),([2,3],[2,3]),([],[]),([],[]),([5,6],[5,6]),([4,7],[4,7]),([0,1,0,1,2,3,4,5,6,7,8],[0,1]),([9,8,0,1,2,3,4,5,6,7,8],[8,9])])
def legateref04_Encrypt.B8:List Nat:=[0,0,0,0,12,0,0,96,252,511,1023]
theorem legateref04_Encrypt.tab8:rtab .any (opsOf Tryd.f91 8)=legateref04_Encrypt.T8:=by kernel_rfl
theorem legateref04_Encrypt.bits8:waitsOk legateref04_Encrypt.T8.2 legateref04_Encrypt.B8=true:=by kernel_rfl
def legateref04_Encrypt.T29:Bool×List (List Nat×List Nat):=(true,[([],[]),([],[]),([1],[1]),([],[]),([2,3],[2,3]),([],[]),([],[]),([6],[6]),([],[]),([7,8],[7,8]),([5,9],[5,9]),([10],[10]),([11],[11]),([],[]),([],[]),([14],[14]),([],[]),([16],[16]),([17],[17]),([15,18],[15,18]),([13,19],[13,19]),([20],[20]),([21,12],[21]),([12,22],[12,22]),([],[]),([],[]),([25],[25]),([],[]),([27],[27]),([28],[28]),([26,29],[26,29]),([24,30],[24,30]),([31],[31]),([23,32],[23,32]),([],[]),([],[]),([35],[35]),([],[]),([37],[37]),([38],[38]),([36,39],[36,39]),([34,40],[34,40]),([41],[41]),([33,42],[33,42]),([0,4,0,1,2,3,4,5,6,7,8,9,10,11,12,13,14,15,16,17,18,19,20,21,22,23,24,25,26,27,28,29,30,31,32,33,34,35,36,37,38,39,40,41,42,43],[0,4]),([44,43,22,0,1,2,3,4,5,6,7,8,9,10,11,12,13,14,15,16,17,18,19,20,21,22,23,24,25,26,27,28,29,30,31,32,33,34,35,36,37,38,39,40,41,42,43],[43,44])])
def legateref04_Encrypt.B29:List Nat:=[0,0,2,0,14,0,0,64,0,448,992,2016,4064,0,0,16384,0,65536,196608,507904,1040384,2088960,4194272,8388576,0,0,33554432,0,134217728,402653184,1040187392,2130706432,4278190080,8589934560,0,0,34359738368,0,137438953472,412316860416,1065151889408,2181843386368,4380866641920,8796093022176,17592186044415,35184372088831]
theorem legateref04_Encrypt.tab29:rtab .any (opsOf Tryd.f91 29)=legateref04_Encrypt.T29:=by kernel_rfl
theorem legateref04_Encrypt.bits29:waitsOk legateref04_Encrypt.T29.2 legateref04_Encrypt.B29=true:=by kernel_rfl
def legateref04_Encrypt.T33:Bool×List (List Nat×List Nat):=(true,[([],[]),([],[]),([],[]),([],[]),([2,3],[2,3]),([4],[4]),([],[]),([],[]),([7],[7]),([],[]),([8,9],[8,9]),([6,10],[6,10]),([5,11],[5,11]),([0,1,0,1,2,3,4,5,6,7,8,9,10,11,12],[0,1]),([13,12,0,1,2,3,4,5,6,7,8,9,10,11,12],[12,13])])
def legateref04_Encrypt.B33:List Nat:=[0,0,0,0,12,28,0,0,128,0,896,1984,4092,8191,16383]
theorem legateref04_Encrypt.tab33:rtab .any (opsOf Tryd.f91 33)=legateref04_Encrypt.T33:=by kernel_rfl
theorem legateref04_Encrypt.bits33:waitsOk legateref04_Encrypt.T33.2 legateref04_Encrypt.B33=true:=by kernel_rfl
set_option maxHeartbeats 8000000 in
set_option maxRecDepth 100000 in
theorem legateref04_Encrypt.calls (k:Nat) (A0:Option Addr) (c0:Nat) (l0:List Int) (a1:ByteArray) (a2:ByteArray) (r:ByteArray) (w:World) (hr0:Kd.C (Kd.int .u8) w A0 l0.length l0) (hc0:l0.length≤c0) (h:legateref04_Encrypt.f k l0 a1 a2=some r) :
 Calls Tryd.prog 91 #[.slice A0 l0.length c0,.string a1,.string a2] w fun e w'=>e=.returned (.string r)∧Below w.heap.size w w':=by
 have HR0:=zK hr0
 have HC0:=zK hc0
 clear hr0 hc0
 have HB:=zK (Below.refl w.heap.size w)
 have H:(if (a1.size:Int)=16 then (legateref04_Encrypt.j0 k l0 a1 a2 ((a2.size:Int) != 16)) else (legateref04_Encrypt.j0 k l0 a1 a2 true))=some r:=h
 clear h
 have HC4:=zK H
 clear H
 go_enter Tryd.func91,Tryd.ntmps91
 go_upto_region 1 with (fail)
 go_cut [25] (fun v25 wc=>∃ (kq:Nat) (x25_3:Bool),v25=.bool x25_3∧Aside0 (legateref04_Encrypt.j0 kq l0 a1 a2 x25_3=some r)∧Aside0 (kq≤k)∧Aside0 (Below w.heap.size w wc))
 case first =>
  have H:=HC4.out
  clear HC4
  by_cases c5:(a1.size:Int)=16
  case neg =>
   rw [if_neg c5] at H
   have c5b0:((a1.size:Int) == 16)=false:=beq_eq_false_iff_ne.mpr c5
   have c5b1:((a1.size:Int) != 16)=true:=bne_iff_ne.mpr c5
   (first|rw [c5b0]|(simp only [i64_w,i32_w]; rw [c5b0])|skip)
   have H':=zK H
   clear H
   go_wp2
   go_meet
   case rel=>exact ⟨_,(true),(by first|rfl|(simp; done)|(simp [*]; done)),H',⟨by first|omega|exact Nat.le_refl _⟩,⟨by repeat (first|(with_reducible first|exact HB.out|apply zA|apply zN|apply zD)|exact HB.out)⟩⟩
  rw [if_pos c5] at H
  have c5b0:((a1.size:Int) == 16)=true:=beq_iff_eq.mpr c5
  have c5b1:((a1.size:Int) != 16)=false:=bne_eq_false_iff_eq.mpr c5
  clear c5
  (first|rw [c5b0]|(simp only [i64_w,i32_w]; rw [c5b0])|skip)
  have H':=zK H
  clear H
  go_wp2
  go_meet
  case rel=>exact ⟨_,(((a2.size:Int) != 16)),(by first|rfl|(simp; done)|(simp [*]; done)),H',⟨by first|omega|exact Nat.le_refl _⟩,⟨by repeat (first|(with_reducible first|exact HB.out|apply zA|apply zN|apply zD)|exact HB.out)⟩⟩
 case rest =>
  clear HC4
  try clear p2
  try clear c5
  try clear c5b0
  try clear c5b1
  obtain ⟨kq,x25_3,rfl,HA,HJ3,HB⟩:=hcut
  cases kq with
  | zero=>exact absurd HA.out (by simp [legateref04_Encrypt.j0])
  | succ kj3 =>
   have H:=HA.out
   clear HA
   simp only [legateref04_Encrypt.j0] at H
   by_cases c6:x25_3=true
   case pos =>
    subst c6
    have H1:(some (⟨#[]⟩:ByteArray))=some r:=by rw [if_pos rfl] at H; exact H
    clear H
    have H:=H1
    clear H1
    obtain rfl:=Option.some.inj H
    go_wp2
    go_ret
    exact ⟨by first|rfl|(simp [errW_none,errW_some]<;>rfl)|(simp [*,errW_none,errW_some]<;>rfl),by repeat (first|(with_reducible first|exact HB.out|apply zA|apply zN|apply zD)|exact HB.out)⟩
   replace c6:=Bool.eq_false_iff.mpr c6
   subst c6
   have H1:((legateref04_Expand.f kj3 l0 a1).bind fun t465=>(if 16≤281474976710656 then (legateref04_Encrypt.l0 kj3 l0 a2 t465 (List.replicate 16 0) 0) else (none)))=some r:=by rw [if_neg (show ¬ (false=true) by decide)] at H; exact H
   clear H
   have H:=H1
   clear H1
   replace H:=Option.bind_eq_some_iff.mp H
   obtain ⟨t465,A70,H⟩:=H
   replace H:(if 16≤281474976710656 then (legateref04_Encrypt.l0 kj3 l0 a2 t465 (List.replicate 16 0) 0) else (none))=some r:=H
   have A7:=zK A70
   clear A70
   by_cases c8:16≤281474976710656
   case neg =>
    rw [if_neg c8] at H
    exact absurd H (by simp)
   rw [if_pos c8] at H
   have c8b0:=eq_true c8
   have c8b1:decide (16≤281474976710656)=true:=decide_eq_true c8
   clear c8
   obtain ⟨y466,hy466⟩:∃ y_:List Int,y_=(List.replicate 16 0):=⟨_,rfl⟩
   replace H:(legateref04_Encrypt.l0 kj3 l0 a2 t465 y466 0)=some r:=by first|(rw [hy466]; with_reducible exact H)|(have H2_:=(Option.bind_some _ _).symm.trans H; rw [hy466]; with_reducible exact H2_)|(have H2_:=(Option.bind_some _ _).symm.trans H; with_reducible exact H2_)|with_reducible exact H|(rw [hy466]; exact H)|exact H
   have Ny466:=zK hy466
   clear hy466
   have H':=zK H
   clear H
   go_wp2_with (first|((with_reducible refine gate_callee (f:=95) rfl ?_); refine goesL_ (some 28) rfl rfl Tryd.func95 (by kernel_rfl) rfl #[.slice A0 l0.length c0,.string a1] rfl (by (try simp only [zm]); first|done|rfl|(simp only [zl]; rfl)) ?_; (with_reducible refine (legateref04_Expand.calls kj3 _ _ l0 a1 t465 _ ?side1 ?side2 A7.out).mono ?_); (case side1=>repeat (first|exact (Kd.C_below HR0.out HB.out)|(with_reducible refine Kd.C_alloc ?_ _)|(with_reducible refine Kd.C_drewN ?_ _)|(with_reducible refine Kd.C_drew ?_))); (case side2=>exact HC0.out); rintro e w9 ⟨rfl,hb⟩; refine ⟨_,rfl,?_⟩; have n0_:=zK (below_step (by repeat (first|(with_reducible first|exact HB.out|apply zA|apply zN|apply zD)|exact HB.out)) hb); clear HB; have HB:=n0_; clear n0_; (try clear hb); (try clear hb2); (try clear hk); (try clear hi))|((with_reducible refine gate_dst (N:=29) rfl ?_); (try (refine gate_guard (by rfl) ?_; dsimp only)); refine Kd.R_make (Kd.int .u8) _ 5 rfl (N:=29) rfl 44 _ _ rfl 16 rfl rfl Tryd.underlying44 (.int .u8 0) 1 info5 rfl (by decide) (by omega) 0 (ok:=fun _=>True) (okp:=fun _=>True) rfl (fun _ hk=>hk) trivial (by omega) (by omega) (Below.refl _ _) (Nat.le_refl _) ?_; intro v467 w10 ho11 hb hg_ hnew_; clear hg_ hnew_; (first|rw [← Ny466.out] at ho11|(simp only [Int.reduceToNat] at ho11; rw [← Ny466.out] at ho11)); have n0_:=zK (Kd.R_lower ho11 (below_size (by repeat (first|(with_reducible first|exact HB.out|apply zA|apply zN|apply zD)|exact HB.out)))); have n1_:=zK (below_step (by repeat (first|(with_reducible first|exact HB.out|apply zA|apply zN|apply zD)|exact HB.out)) hb); clear HB; have HO468:=n0_; have HB:=n1_; clear n0_ n1_; clear hb ho11))
   go_loopg [9] kj3 (fun kq v9 w'=>∃ (x8_2:List Int) (x9_2:Int),v9=.int .i64 x9_2∧Aside0 (legateref04_Encrypt.l0 kq l0 a2 t465 x8_2 x9_2=some r)∧Aside0 (kq≤kj3)∧Aside0 (Kd.R (Kd.int .u8) 5 w' w.heap.size (fun _=>True) v467 x8_2)∧Aside0 (Below w.heap.size w w'))
   case atStart=>exact ⟨(y466),(0),(by first|rfl|(simp; done)|(simp [*]; done)),H',⟨Nat.le_refl _⟩,⟨by (with_reducible repeat (first|apply Kd.R_alloc|apply Kd.R_drewN|apply Kd.R_drew)); exact HO468.out⟩,⟨by repeat (first|(with_reducible first|exact HB.out|apply zA|apply zN|apply zD)|exact HB.out)⟩⟩
   case round =>
    clear H'
    try clear p2
    try clear c5
    try clear c5b0
    try clear c5b1
    try clear c6
    try clear c8
    try clear c8b0
    try clear c8b1
    try clear c9
    try clear p2
    obtain ⟨x8_2,x9_2,rfl,HA,HK2,HO_8,HB⟩:=hrel
    cases gk with
    | zero=>exact absurd HA.out (by simp [legateref04_Encrypt.l0])
    | succ k2 =>
     have H:=HA.out
     clear HA
     simp only [legateref04_Encrypt.l0] at H
     by_cases c12:x9_2<16
     case pos =>
      rw [if_pos c12] at H
      have c12b0:decide (x9_2<16)=true:=decide_eq_true c12
      clear c12
      by_cases c13:0≤x9_2
      case neg =>
       rw [if_neg c13] at H
       exact absurd H (by simp)
      rw [if_pos c13] at H
      have c13b0:decide (0≤x9_2)=true:=decide_eq_true c13
      clear c13
      by_cases c14:x9_2<(a2.size:Int)
      case neg =>
       rw [if_neg c14] at H
       exact absurd H (by simp)
      rw [if_pos c14] at H
      have c14b0:decide (x9_2<(a2.size:Int))=true:=decide_eq_true c14
      clear c14
      by_cases c16:x9_2<(t465.size:Int)
      case neg =>
       rw [if_neg c16] at H
       exact absurd H (by simp)
      rw [if_pos c16] at H
      have c16b0:decide (x9_2<(t465.size:Int))=true:=decide_eq_true c16
      clear c16
      by_cases c18:x9_2<(x8_2.length:Int)
      case neg =>
       rw [if_neg c18] at H
       exact absurd H (by simp)
      rw [if_pos c18] at H
      have c18b0:decide (x9_2<(x8_2.length:Int))=true:=decide_eq_true c18
      clear c18
      obtain ⟨y469,hy469⟩:∃ y_:List Int,y_=(x8_2.set (x9_2:Int).toNat (Go.bits .xor .u8 (bt a2 x9_2) (bt t465 x9_2))):=⟨_,rfl⟩
      replace H:(legateref04_Encrypt.l0 k2 l0 a2 t465 y469 (wrap64 (x9_2+1)))=some r:=by first|(rw [hy469]; with_reducible exact H)|(have H2_:=(Option.bind_some _ _).symm.trans H; rw [hy469]; with_reducible exact H2_)|(have H2_:=(Option.bind_some _ _).symm.trans H; with_reducible exact H2_)|with_reducible exact H|(rw [hy469]; exact H)|exact H
      have Ny469:=zK hy469
      clear hy469
      have H':=zK H
      clear H
      try go_wp2
      have n0_:=zK (Kd.R_drew HO_8.out)
      have n1_:=zK (zD HB.out)
      clear HO_8
      clear HB
      have HO_8:=n0_
      have HB:=n1_
      clear n0_ n1_
      have p15:0≤(x9_2:Int):=of_decide_eq_true (by first|(with_reducible assumption)|assumption)
      have q15:x9_2<(a2.size:Int):=of_decide_eq_true (by first|(with_reducible assumption)|assumption)
      have hx15:=bt_at a2 x9_2
      replace p15:=eq_true p15
      replace q15:=eq_true q15
      have p17:0≤(x9_2:Int):=of_decide_eq_true (by first|(with_reducible assumption)|assumption)
      have q17:x9_2<(t465.size:Int):=of_decide_eq_true (by first|(with_reducible assumption)|assumption)
      have hx17:=bt_at t465 x9_2
      replace p17:=eq_true p17
      replace q17:=eq_true q17
      have p19:0≤(x9_2:Int):=of_decide_eq_true (by first|(with_reducible assumption)|assumption)
      have q19:(x9_2:Int)<((x8_2.length:Int):Int):=of_decide_eq_true (by first|(with_reducible assumption)|assumption)
      obtain ⟨go19,co19,eo19,gb19,gl19,cl19,HG19⟩:=Kd.R_form HO_8.out (by omega)
      (first|cases eo19|(injection eo19 with ea_ en_ ec_; (first|subst ea_|(injection ea_ with ea_; subst ea_)); subst ec_; clear en_))
      have GB19:=zK gb19
      have GG19:=zK HG19
      clear gb19 gl19 HG19
      obtain ⟨hx19_0,hf19_0⟩:=Kd.R_celln 0 HO_8.out (x9_2:Int) p19 q19
      replace p19:=eq_true p19
      replace q19:=eq_true q19
      have HP21:=Kd.R_putn HO_8.out (x9_2:Int) (Go.bits .xor .u8 (bt a2 x9_2) (bt t465 x9_2))
      rw [← Ny469.out] at HP21
      have HQ21:=zK HP21
      clear HP21
      refine start_ (n:=11) (S:=fun w'=>True) (ds:=[10]) #[G,G,G,G,G,G,G,G,G,G,G] (by kernel_rfl) rfl rfl trivial (fun hHeld=>?_); refine with_tabW legateref04_Encrypt.tab8 legateref04_Encrypt.bits8 (fun HT_ HW_=>?_)
      generalize wr.drew=w20 at HO_8 HB GG19 HQ21 hf19_0 hx19_0 hHeld ⊢
      refine zq 0 (some 34) ?_ #[O,G,G,G,G,G,G,G,G,G,G] rfl rfl (any_of HT_.out (by kernel_rfl)) (fun _ _ _ h=>h) (Or.inl ⟨by rfl,?_⟩) ?_ ?_ ?_
      rotate_left;(intro w';go_simp;with_reducible rfl);rotate_left;(simp only [Act.put,zp];rfl)
      refine zq 1 (some 35) ?_ #[O,O,G,G,G,G,G,G,G,G,G] rfl rfl (any_of HT_.out (by kernel_rfl)) (fun _ _ _ h=>h) (Or.inl ⟨by rfl,?_⟩) ?_ ?_ ?_
      rotate_left;(intro w';go_simp;with_reducible rfl);rotate_left;(simp only [Act.put,zp];rfl)
      refine zq 2 (some 36) ?_ #[O,O,O,G,G,G,G,G,G,G,G] rfl rfl (any_of HT_.out (by kernel_rfl)) (fun _ _ _ h=>h) (Or.inl ⟨by rfl,?_⟩) ?_ ?_ ?_
      rotate_left;(intro w';go_simp;with_reducible rfl);rotate_left;(simp only [Act.put,zp];rfl)
      refine zq 3 (some 37) ?_ #[O,O,O,O,G,G,G,G,G,G,G] rfl rfl (any_of HT_.out (by kernel_rfl)) (fun _ _ _ h=>h) (Or.inl ⟨by rfl,?_⟩) ?_ ?_ ?_
      rotate_left;(intro w';go_simp;with_reducible rfl);rotate_left;(simp only [Act.put,zp];rfl)
      refine zq 5 (some 39) ?_ #[O,O,O,O,G,O,G,G,G,G,G] rfl rfl (any_of HT_.out (by kernel_rfl)) (fun _ _ _ h=>h) (Or.inl ⟨by rfl,?_⟩) ?_ ?_ ?_
      rotate_left;(intro w';go_simp;with_reducible rfl);rotate_left;(simp only [Act.put,zp];rfl)
      refine zq 6 (some 40) ?_ #[O,O,O,O,G,O,O,G,G,G,G] rfl rfl (any_of HT_.out (by kernel_rfl)) (fun _ _ _ h=>h) (Or.inl ⟨by rfl,?_⟩) ?_ ?_ ?_
      rotate_left;(intro w';go_simp;with_reducible rfl);rotate_left;(simp only [Act.put,zp];rfl)
      refine take_ (i:=4) (N:=some 38) (v:=?_) (a':=?_) #[O,O,O,O,O,O,O,G,G,G,G] rfl rfl (take_ofW HT_.out HW_.out (by kernel_rfl)) (fun _ _ _ h=>h) (Or.inl ⟨by rfl,?_⟩) hHeld ?_ ?_
      rotate_left
      ·intro w' _
       go_simp
       with_reducible rfl
      rotate_left
      ·simp only [Act.put,zp]
       rfl
      refine take_ (i:=7) (N:=some 41) (v:=?_) (a':=?_) #[O,O,O,O,O,O,O,O,G,G,G] rfl rfl (take_ofW HT_.out HW_.out (by kernel_rfl)) (fun _ _ _ h=>h) (Or.inl ⟨by rfl,?_⟩) hHeld ?_ ?_
      rotate_left
      ·intro w' _
       go_simp
       with_reducible rfl
      rotate_left
      ·simp only [Act.put,zp]
       rfl
      refine zq 8 (some 42) ?_ #[O,O,O,O,O,O,O,O,O,G,G] rfl rfl (any_of HT_.out (by kernel_rfl)) (fun _ _ _ h=>h) (Or.inl ⟨by rfl,?_⟩) ?_ ?_ ?_
      rotate_left;(intro w';go_simp;with_reducible rfl);rotate_left;(simp only [Act.put,zp];rfl)
      refine zq 9 (some 43) ?_ #[O,O,O,O,O,O,O,O,O,O,G] rfl rfl (any_of HT_.out (by kernel_rfl)) (fun _ _ _ h=>h) (Or.inl ⟨by rfl,?_⟩) ?_ ?_ ?_
      rotate_left;(intro w';go_simp;with_reducible rfl);rotate_left;(simp only [Act.put,zp];rfl)
      refine last_ (i:=10) (N:=none) #[O,O,O,O,O,O,O,O,O,O,O] rfl rfl (one_of HT_.out (by kernel_rfl)) (by decide) (fun K hK=>?_)
      refine skip_ (w1:=?_) (by rfl) rfl ?_ ?_
      rotate_left
      ·go_simp
       rfl
      refine hK.out _ _ ?_
      clear hK K
      refine done_ (done_of HT_.out (by kernel_rfl)) ?_
      try go_wp2
      go_roundg k2
      case measure=>have:=HJ3.out; have:=HK2.out; omega
      case rel=>exact ⟨(y469),(wrap64 (x9_2+1)),(by first|rfl|(simp; done)|(simp [*]; done)),H',⟨by have:=HJ3.out; have:=HK2.out; omega⟩,⟨by (with_reducible repeat (first|apply Kd.R_alloc|apply Kd.R_drewN|apply Kd.R_drew)); exact HQ21.out⟩,⟨by repeat (first|(with_reducible first|exact HB.out|apply zA|apply zN|apply zD|refine below_set ?_ GB19.out)|exact HB.out)⟩⟩
     rw [if_neg c12] at H
     have c12b0:decide (x9_2<16)=false:=decide_eq_false c12
     clear c12
     have H':=zK H
     clear H
     go_wp2
     go_loopg [10] k2 (fun kq v10 w'=>∃ (x8_3:List Int) (x10_3:Int),v10=.int .i64 x10_3∧Aside0 (legateref04_Encrypt.l1 kq l0 t465 x8_3 x10_3=some r)∧Aside0 (kq≤k2)∧Aside0 (Kd.R (Kd.int .u8) 5 w' w.heap.size (fun _=>True) v467 x8_3)∧Aside0 (Below w.heap.size w w'))
     case atStart=>exact ⟨(x8_2),(1),(by first|rfl|(simp; done)|(simp [*]; done)),H',⟨Nat.le_refl _⟩,⟨by (with_reducible repeat (first|apply Kd.R_alloc|apply Kd.R_drewN|apply Kd.R_drew)); exact HO_8.out⟩,⟨by repeat (first|(with_reducible first|exact HB.out|apply zA|apply zN|apply zD)|exact HB.out)⟩⟩
     case round =>
      clear H'
      try clear c1
      try clear p1
      try clear q1
      try clear hx1
      try clear p2
      try clear c5
      try clear c5b0
      try clear c5b1
      try clear c6
      try clear p6
      try clear c8
      try clear c8b0
      try clear c8b1
      try clear c9
      try clear c12
      try clear c12b0
      try clear c13
      try clear c13b0
      try clear c14
      try clear c14b0
      try clear p15
      try clear q15
      try clear hx15
      try clear c16
      try clear c16b0
      try clear p17
      try clear q17
      try clear hx17
      try clear c18
      try clear c18b0
      try clear p19
      try clear q19
      try clear hx19
      try clear hf19
      try clear hx19_0
      try clear p15
      try clear p17
      try clear p19
      try clear p2
      try clear q15
      try clear q17
      try clear q19
      obtain ⟨x8_3,x10_3,rfl,HA,HK3,HO_8,HB⟩:=hrel
      cases gk with
      | zero=>exact absurd HA.out (by simp [legateref04_Encrypt.l1])
      | succ k3 =>
       have H:=HA.out
       clear HA
       simp only [legateref04_Encrypt.l1] at H
       by_cases c22:x10_3≤10
       case neg =>
        rw [if_neg c22] at H
        have c22b0:decide (x10_3≤10)=false:=decide_eq_false c22
        clear c22
        obtain rfl:=Option.some.inj H
        have hcv83:=own_string (P:=Tryd.prog) Tryd.underlying44 Tryd.underlying5 Tryd.underlying9 (Kd.own_of_R HO_8.out)
        go_wp2
        go_ret
        exact ⟨by first|rfl|(simp [errW_none,errW_some]<;>rfl)|(simp [*,errW_none,errW_some]<;>rfl),by repeat (first|(with_reducible first|exact HB.out|apply zA|apply zN|apply zD)|exact HB.out)⟩
       rw [if_pos c22] at H
       have c22b0:decide (x10_3≤10)=true:=decide_eq_true c22
       clear c22
       by_cases c23:16≤281474976710656
       case neg =>
        rw [if_neg c23] at H
        exact absurd H (by simp)
       rw [if_pos c23] at H
       have c23b0:=eq_true c23
       have c23b1:decide (16≤281474976710656)=true:=decide_eq_true c23
       clear c23
       obtain ⟨y470,hy470⟩:∃ y_:List Int,y_=(List.replicate 16 0):=⟨_,rfl⟩
       replace H:(legateref04_Encrypt.l2 k3 l0 t465 x8_3 x10_3 y470 0)=some r:=by first|(rw [hy470]; with_reducible exact H)|(have H2_:=(Option.bind_some _ _).symm.trans H; rw [hy470]; with_reducible exact H2_)|(have H2_:=(Option.bind_some _ _).symm.trans H; with_reducible exact H2_)|with_reducible exact H|(rw [hy470]; exact H)|exact H
       have Ny470:=zK hy470
       clear hy470
       have H':=zK H
       clear H
       go_wp2_with (first|((with_reducible refine gate_dst (N:=48) rfl ?_); (try (refine gate_guard (by rfl) ?_; dsimp only)); refine Kd.R_make (Kd.int .u8) _ 5 rfl (N:=48) rfl 44 _ _ rfl 16 rfl rfl Tryd.underlying44 (.int .u8 0) 1 info5 rfl (by decide) (by omega) 0 (ok:=fun _=>True) (okp:=fun _=>True) rfl (fun _ hk=>hk) trivial (by omega) (by omega) (Below.refl _ _) (Nat.le_refl _) ?_; intro v471 w24 ho25 hb hg_ hnew_; clear hg_ hnew_; (first|rw [← Ny470.out] at ho25|(simp only [Int.reduceToNat] at ho25; rw [← Ny470.out] at ho25)); have n0_:=zK (Kd.R_elder' (by (with_reducible repeat (first|apply Kd.R_alloc|apply Kd.R_drewN|apply Kd.R_drew)); exact HO_8.out) (Kd.R_base ho25) hb); have n1_:=zK (Kd.R_lower (Kd.R_new' ho25 (Kd.R_lt (by (with_reducible repeat (first|apply Kd.R_alloc|apply Kd.R_drewN|apply Kd.R_drew)); exact HO_8.out))) (below_size (by repeat (first|(with_reducible first|exact HB.out|apply zA|apply zN|apply zD)|exact HB.out)))); have n2_:=zK (below_step (by repeat (first|(with_reducible first|exact HB.out|apply zA|apply zN|apply zD)|exact HB.out)) hb); clear HO_8; clear HB; have HO_8:=n0_; have HO472:=n1_; have HB:=n2_; clear n0_ n1_ n2_; clear hb ho25))
       go_loopg [12] k3 (fun kq v12 w'=>∃ (x11_4:List Int) (x12_4:Int),v12=.int .i64 x12_4∧Aside0 (legateref04_Encrypt.l2 kq l0 t465 x8_3 x10_3 x11_4 x12_4=some r)∧Aside0 (kq≤k3)∧Aside0 (Kd.R (Kd.int .u8) 5 w' w.heap.size (fun k_=>some k_≠(v471:Value).ownBlock) v467 x8_3)∧Aside0 (Kd.R (Kd.int .u8) 5 w' w.heap.size (fun k_=>some k_≠(v467:Value).ownBlock) v471 x11_4)∧Aside0 (Below w.heap.size w w'))
       case atStart=>exact ⟨(y470),(0),(by first|rfl|(simp; done)|(simp [*]; done)),H',⟨Nat.le_refl _⟩,⟨by (with_reducible repeat (first|apply Kd.R_alloc|apply Kd.R_drewN|apply Kd.R_drew)); exact Kd.R_mono HO_8.out (fun _ hk=>hk.2)⟩,⟨by (with_reducible repeat (first|apply Kd.R_alloc|apply Kd.R_drewN|apply Kd.R_drew)); exact Kd.R_mono HO472.out (fun _ hk=>hk.2)⟩,⟨by repeat (first|(with_reducible first|exact HB.out|apply zA|apply zN|apply zD)|exact HB.out)⟩⟩
       case round =>
        clear H'
        try clear c1
        try clear p1
        try clear q1
        try clear hx1
        try clear c2
        try clear p2
        try clear c5
        try clear c5b0
        try clear c5b1
        try clear c6
        try clear p6
        try clear c8
        try clear c8b0
        try clear c8b1
        try clear c9
        try clear c12
        try clear c12b0
        try clear c13
        try clear c13b0
        try clear c14
        try clear c14b0
        try clear p15
        try clear q15
        try clear hx15
        try clear c16
        try clear c16b0
        try clear p17
        try clear q17
        try clear hx17
        try clear c18
        try clear c18b0
        try clear p19
        try clear q19
        try clear hx19
        try clear hf19
        try clear c22
        try clear c22b0
        try clear c23
        try clear c23b0
        try clear c23b1
        try clear hx19_0
        try clear p1
        try clear p15
        try clear p17
        try clear p19
        try clear p2
        try clear p6
        try clear q1
        try clear q15
        try clear q17
        try clear q19
        obtain ⟨x11_4,x12_4,rfl,HA,HK4,HO_8,HO_11,HB⟩:=hrel
        cases gk with
        | zero=>exact absurd HA.out (by simp [legateref04_Encrypt.l2])
        | succ k4 =>
         have H:=HA.out
         clear HA
         simp only [legateref04_Encrypt.l2] at H
         by_cases c26:x12_4<4
         case pos =>
          rw [if_pos c26] at H
          have c26b0:decide (x12_4<4)=true:=decide_eq_true c26
          clear c26
          have H':=zK H
          clear H
          go_wp2
          go_loopg [13] k4 (fun kq v13 w'=>∃ (x11_5:List Int) (x13_5:Int),v13=.int .i64 x13_5∧Aside0 (legateref04_Encrypt.l3 kq l0 t465 x8_3 x10_3 x11_5 x12_4 x13_5=some r)∧Aside0 (kq≤k4)∧Aside0 (Kd.R (Kd.int .u8) 5 w' w.heap.size (fun k_=>some k_≠(v471:Value).ownBlock) v467 x8_3)∧Aside0 (Kd.R (Kd.int .u8) 5 w' w.heap.size (fun k_=>some k_≠(v467:Value).ownBlock) v471 x11_5)∧Aside0 (Below w.heap.size w w'))
          case atStart=>exact ⟨(x11_4),(0),(by first|rfl|(simp; done)|(simp [*]; done)),H',⟨Nat.le_refl _⟩,⟨by (with_reducible repeat (first|apply Kd.R_alloc|apply Kd.R_drewN|apply Kd.R_drew)); exact HO_8.out⟩,⟨by (with_reducible repeat (first|apply Kd.R_alloc|apply Kd.R_drewN|apply Kd.R_drew)); exact HO_11.out⟩,⟨by repeat (first|(with_reducible first|exact HB.out|apply zA|apply zN|apply zD)|exact HB.out)⟩⟩
          case round =>
           clear H'
           try clear c1
           try clear p1
           try clear q1
           try clear hx1
           try clear c2
           try clear p2
           try clear c5
           try clear c5b0
           try clear c5b1
           try clear c6
           try clear p6
           try clear c8
           try clear c8b0
           try clear c8b1
           try clear c9
           try clear c12
           try clear c12b0
           try clear c13
           try clear c13b0
           try clear c14
           try clear c14b0
           try clear p15
           try clear q15
           try clear hx15
           try clear c16
           try clear c16b0
           try clear p17
           try clear q17
           try clear hx17
           try clear c18
           try clear c18b0
           try clear p19
           try clear q19
           try clear hx19
           try clear hf19
           try clear c22
           try clear c22b0
           try clear c23
           try clear c23b0
           try clear c23b1
           try clear c26
           try clear c26b0
           try clear hx19_0
           try clear p1
           try clear p15
           try clear p17
           try clear p19
           try clear p2
           try clear p6
           try clear q1
           try clear q15
           try clear q17
           try clear q19
           obtain ⟨x11_5,x13_5,rfl,HA,HK5,HO_8,HO_11,HB⟩:=hrel
           cases gk with
           | zero=>exact absurd HA.out (by simp [legateref04_Encrypt.l3])
           | succ k5 =>
            have H:=HA.out
            clear HA
            simp only [legateref04_Encrypt.l3] at H
            by_cases c27:x13_5<4
            case neg =>
             rw [if_neg c27] at H
             have c27b0:decide (x13_5<4)=false:=decide_eq_false c27
             clear c27
             have H':=zK H
             clear H
             go_wp2
             go_roundg k5
             case measure=>have:=HJ3.out; have:=HK2.out; have:=HK3.out; have:=HK4.out; have:=HK5.out; omega
             case rel=>exact ⟨(x11_5),(wrap64 (x12_4+1)),(by first|rfl|(simp; done)|(simp [*]; done)),H',⟨by have:=HJ3.out; have:=HK2.out; have:=HK3.out; have:=HK4.out; have:=HK5.out; omega⟩,⟨by (with_reducible repeat (first|apply Kd.R_alloc|apply Kd.R_drewN|apply Kd.R_drew)); exact HO_8.out⟩,⟨by (with_reducible repeat (first|apply Kd.R_alloc|apply Kd.R_drewN|apply Kd.R_drew)); exact HO_11.out⟩,⟨by repeat (first|(with_reducible first|exact HB.out|apply zA|apply zN|apply zD)|exact HB.out)⟩⟩
            rw [if_pos c27] at H
            have c27b0:decide (x13_5<4)=true:=decide_eq_true c27
            clear c27
            obtain ⟨ji28,hji28⟩:∃ j_:Int,(wrap64 ((wrap64 (4 * (Int.tmod (wrap64 (x12_4+x13_5)) 4)))+x13_5))=j_:=⟨_,rfl⟩
            replace H:(if 0≤(ji28) then (if (ji28)<(x8_3.length:Int) then (if 0≤(rd x8_3 (ji28)) then (if (rd x8_3 (ji28))<(l0.length:Int) then (if 0≤(wrap64 ((wrap64 (4 * x12_4))+x13_5)) then (if (wrap64 ((wrap64 (4 * x12_4))+x13_5))<(x11_5.length:Int) then (legateref04_Encrypt.l3 k5 l0 t465 x8_3 x10_3 (x11_5.set ((wrap64 ((wrap64 (4 * x12_4))+x13_5)):Int).toNat (rd l0 (rd x8_3 (ji28)))) x12_4 (wrap64 (x13_5+1))) else (none)) else (none)) else (none)) else (none)) else (none)) else (none))=some r:=by first|(rw [hji28] at H; exact H)|(simp only [hji28] at H ⊢; exact H)
            have hji28w:(IntKind.i64.wrap ((wrap64 (4 * (Int.tmod (wrap64 (x12_4+x13_5)) 4)))+x13_5))=ji28:=(i64_w _).trans hji28
            by_cases c29:0≤(ji28)
            case neg =>
             rw [if_neg c29] at H
             exact absurd H (by simp)
            rw [if_pos c29] at H
            have c29b0:decide (0≤(ji28))=true:=decide_eq_true c29
            clear c29
            by_cases c30:(ji28)<(x8_3.length:Int)
            case neg =>
             rw [if_neg c30] at H
             exact absurd H (by simp)
            rw [if_pos c30] at H
            have c30b0:decide ((ji28)<(x8_3.length:Int))=true:=decide_eq_true c30
            clear c30
            by_cases c31:0≤(rd x8_3 (ji28))
            case neg =>
             rw [if_neg c31] at H
             exact absurd H (by simp)
            rw [if_pos c31] at H
            have c31b0:decide (0≤(rd x8_3 (ji28)))=true:=decide_eq_true c31
            clear c31
            by_cases c32:(rd x8_3 (ji28))<(l0.length:Int)
            case neg =>
             rw [if_neg c32] at H
             exact absurd H (by simp)
            rw [if_pos c32] at H
            have c32b0:decide ((rd x8_3 (ji28))<(l0.length:Int))=true:=decide_eq_true c32
            clear c32
            obtain ⟨ji33,hji33⟩:∃ j_:Int,(wrap64 ((wrap64 (4 * x12_4))+x13_5))=j_:=⟨_,rfl⟩
            replace H:(if 0≤(ji33) then (if (ji33)<(x11_5.length:Int) then (legateref04_Encrypt.l3 k5 l0 t465 x8_3 x10_3 (x11_5.set ((ji33):Int).toNat (rd l0 (rd x8_3 (ji28)))) x12_4 (wrap64 (x13_5+1))) else (none)) else (none))=some r:=by first|(rw [hji33] at H; exact H)|(simp only [hji33] at H ⊢; exact H)
            have hji33w:(IntKind.i64.wrap ((wrap64 (4 * x12_4))+x13_5))=ji33:=(i64_w _).trans hji33
            by_cases c34:0≤(ji33)
            case neg =>
             rw [if_neg c34] at H
             exact absurd H (by simp)
            rw [if_pos c34] at H
            have c34b0:decide (0≤(ji33))=true:=decide_eq_true c34
            clear c34
            by_cases c35:(ji33)<(x11_5.length:Int)
            case neg =>
             rw [if_neg c35] at H
             exact absurd H (by simp)
            rw [if_pos c35] at H
            have c35b0:decide ((ji33)<(x11_5.length:Int))=true:=decide_eq_true c35
            clear c35
            obtain ⟨y475,hy475⟩:∃ y_:List Int,y_=(x11_5.set ((ji33):Int).toNat (rd l0 (rd x8_3 (ji28)))):=⟨_,rfl⟩
            replace H:(legateref04_Encrypt.l3 k5 l0 t465 x8_3 x10_3 y475 x12_4 (wrap64 (x13_5+1)))=some r:=by first|(rw [hy475]; with_reducible exact H)|(have H2_:=(Option.bind_some _ _).symm.trans H; rw [hy475]; with_reducible exact H2_)|(have H2_:=(Option.bind_some _ _).symm.trans H; with_reducible exact H2_)|with_reducible exact H|(rw [hy475]; exact H)|exact H
            have Ny475:=zK hy475
            clear hy475
            have H':=zK H
            clear H
            obtain ⟨Ao37,co37,eo37⟩:=Kd.R_slice HO_8.out
            subst eo37
            have p473:0≤((ji28):Int):=of_decide_eq_true (by first|(with_reducible assumption)|assumption)
            have q473:(ji28)<(x8_3.length:Int):=of_decide_eq_true (by first|(with_reducible assumption)|assumption)
            obtain ⟨ad473,e473,hx473_0⟩:=Kd.at_int (Kd.R_reads' HO_8.out).2.2 (ji28) p473 q473
            cases e473
            replace p473:=eq_true p473
            replace q473:=eq_true q473
            have p474:0≤((rd x8_3 (ji28)):Int):=of_decide_eq_true (by first|(with_reducible assumption)|assumption)
            have q474:(rd x8_3 (ji28))<(l0.length:Int):=of_decide_eq_true (by first|(with_reducible assumption)|assumption)
            obtain ⟨ad474,e474,hx474_0⟩:=Kd.at_int HR0.out (rd x8_3 (ji28)) p474 q474
            cases e474
            replace hx474_0:=(HB.out.cell (World.block_lt_of_cell? w _ hx474_0)).trans hx474_0
            replace p474:=eq_true p474
            replace q474:=eq_true q474
            have p36:0≤((ji33):Int):=of_decide_eq_true (by first|(with_reducible assumption)|assumption)
            have q36:((ji33):Int)<((x11_5.length:Int):Int):=of_decide_eq_true (by first|(with_reducible assumption)|assumption)
            obtain ⟨go36,co36,eo36,gb36,gl36,cl36,HG36⟩:=Kd.R_form HO_11.out (by omega)
            (first|cases eo36|(injection eo36 with ea_ en_ ec_; (first|subst ea_|(injection ea_ with ea_; subst ea_)); subst ec_; clear en_))
            have GB36:=zK gb36
            have GG36:=zK HG36
            clear gb36 gl36 HG36
            obtain ⟨hx36_0,hf36_0⟩:=Kd.R_celln 0 HO_11.out ((ji33):Int) p36 q36
            replace p36:=eq_true p36
            replace q36:=eq_true q36
            have HP38:=Kd.R_putg HO_11.out ((ji33):Int) (rd l0 (rd x8_3 (ji28)))
            go_wp2_with (first|((with_reducible refine gate_store (t:=5) (p:=75) rfl ?_); refine store_event (t:=5) (p:=75) (v:=?vo_w39) (w1:=(wr.setCell ⟨go36,((ji33):Int).toNat,none⟩ (.int .u8 (rd l0 (rd x8_3 (ji28)))))) ?hg ?ho ?hn ?hr ?_; (case ho=>rfl); (case hg=>rfl); (case hn=>rfl); (case hr=>first|(go_simp; done)|(go_simp; rfl)); intro w39 hw; have hg:wr.grownBy w39 (some go36):=(by rw [hw]; exact HP38.2); have hp_:Kd.R (Kd.int .u8) 5 w39 w.heap.size (fun k_=>some k_≠(.slice (some ad473) x8_3.length co37:Value).ownBlock) (.slice (some ⟨go36,0,none⟩) x11_5.length co36) y475:=(by rw [hw,Ny475.out]; exact HP38.1); clear HP38; have n0_:=zK (Kd.R_after (v:=(.slice (some ⟨go36,0,none⟩) x11_5.length co36)) (v1:=(.slice (some ⟨go36,0,none⟩) x11_5.length co36)) (ok:=(fun _=>True)) (by (with_reducible repeat (first|apply Kd.R_alloc|apply Kd.R_drewN|apply Kd.R_drew)); exact Kd.R_mono HO_8.out (fun _ hk=>⟨trivial,hk⟩)) hg (.inl rfl)); have n1_:=zK (hp_); have n2_:=zK ((by rw [hw]; exact below_set (HB.out) GB36.out:Below w.heap.size w w39)); clear HO_8; clear HO_11; clear HB; have HO_8:=n0_; have HO_11:=n1_; have HB:=n2_; clear n0_ n1_ n2_; clear hg hw hp_))
            go_roundg k5
            case measure=>have:=HJ3.out; have:=HK2.out; have:=HK3.out; have:=HK4.out; have:=HK5.out; omega
            case rel=>exact ⟨(y475),(wrap64 (x13_5+1)),(by first|rfl|(simp; done)|(simp [*]; done)),H',⟨by have:=HJ3.out; have:=HK2.out; have:=HK3.out; have:=HK4.out; have:=HK5.out; omega⟩,⟨by (with_reducible repeat (first|apply Kd.R_alloc|apply Kd.R_drewN|apply Kd.R_drew)); exact Kd.R_mono HO_8.out (fun _ hk=>hk.2)⟩,⟨by (with_reducible repeat (first|apply Kd.R_alloc|apply Kd.R_drewN|apply Kd.R_drew)); exact HO_11.out⟩,⟨by repeat (first|(with_reducible first|exact HB.out|apply zA|apply zN|apply zD)|exact HB.out)⟩⟩
         rw [if_neg c26] at H
         have c26b0:decide (x12_4<4)=false:=decide_eq_false c26
         clear c26
         by_cases c40:16≤281474976710656
         case neg =>
          rw [if_neg c40] at H
          exact absurd H (by simp)
         rw [if_pos c40] at H
         have c40b0:=eq_true c40
         have c40b1:decide (16≤281474976710656)=true:=decide_eq_true c40
         clear c40
         obtain ⟨y476,hy476⟩:∃ y_:List Int,y_=(List.replicate 16 0):=⟨_,rfl⟩
         replace H:(legateref04_Encrypt.l4 k4 l0 t465 x8_3 x10_3 x11_4 y476 0)=some r:=by first|(rw [hy476]; with_reducible exact H)|(have H2_:=(Option.bind_some _ _).symm.trans H; rw [hy476]; with_reducible exact H2_)|(have H2_:=(Option.bind_some _ _).symm.trans H; with_reducible exact H2_)|with_reducible exact H|(rw [hy476]; exact H)|exact H
         have Ny476:=zK hy476
         clear hy476
         have H':=zK H
         clear H
         go_wp2_with (first|((with_reducible refine gate_dst (N:=76) rfl ?_); (try (refine gate_guard (by rfl) ?_; dsimp only)); refine Kd.R_make (Kd.int .u8) _ 5 rfl (N:=76) rfl 44 _ _ rfl 16 rfl rfl Tryd.underlying44 (.int .u8 0) 1 info5 rfl (by decide) (by omega) 0 (ok:=fun _=>True) (okp:=fun _=>True) rfl (fun _ hk=>hk) trivial (by omega) (by omega) (Below.refl _ _) (Nat.le_refl _) ?_; intro v477 w41 ho42 hb hg_ hnew_; clear hg_ hnew_; (first|rw [← Ny476.out] at ho42|(simp only [Int.reduceToNat] at ho42; rw [← Ny476.out] at ho42)); have n0_:=zK (Kd.R_elder' (by (with_reducible repeat (first|apply Kd.R_alloc|apply Kd.R_drewN|apply Kd.R_drew)); exact HO_8.out) (Kd.R_base ho42) hb); have n1_:=zK (Kd.R_elder' (by (with_reducible repeat (first|apply Kd.R_alloc|apply Kd.R_drewN|apply Kd.R_drew)); exact HO_11.out) (Kd.R_base ho42) hb); have n2_:=zK (Kd.R_lower (Kd.R_new' (Kd.R_new' ho42 (Kd.R_lt (by (with_reducible repeat (first|apply Kd.R_alloc|apply Kd.R_drewN|apply Kd.R_drew)); exact HO_8.out))) (Kd.R_lt (by (with_reducible repeat (first|apply Kd.R_alloc|apply Kd.R_drewN|apply Kd.R_drew)); exact HO_11.out))) (below_size (by repeat (first|(with_reducible first|exact HB.out|apply zA|apply zN|apply zD)|exact HB.out)))); have n3_:=zK (below_step (by repeat (first|(with_reducible first|exact HB.out|apply zA|apply zN|apply zD)|exact HB.out)) hb); clear HO_8; clear HO_11; clear HB; have HO_8:=n0_; have HO_11:=n1_; have HO478:=n2_; have HB:=n3_; clear n0_ n1_ n2_ n3_; clear hb ho42))
         go_loopg [15] k4 (fun kq v15 w'=>∃ (x14_5:List Int) (x15_5:Int),v15=.int .i64 x15_5∧Aside0 (legateref04_Encrypt.l4 kq l0 t465 x8_3 x10_3 x11_4 x14_5 x15_5=some r)∧Aside0 (kq≤k4)∧Aside0 (Kd.R (Kd.int .u8) 5 w' w.heap.size (fun k_=>some k_≠(v471:Value).ownBlock∧some k_≠(v477:Value).ownBlock) v467 x8_3)∧Aside0 (Kd.R (Kd.int .u8) 5 w' w.heap.size (fun k_=>some k_≠(v467:Value).ownBlock∧some k_≠(v477:Value).ownBlock) v471 x11_4)∧Aside0 (Kd.R (Kd.int .u8) 5 w' w.heap.size (fun k_=>some k_≠(v467:Value).ownBlock∧some k_≠(v471:Value).ownBlock) v477 x14_5)∧Aside0 (Below w.heap.size w w'))
         case atStart=>exact ⟨(y476),(0),(by first|rfl|(simp; done)|(simp [*]; done)),H',⟨Nat.le_refl _⟩,⟨by (with_reducible repeat (first|apply Kd.R_alloc|apply Kd.R_drewN|apply Kd.R_drew)); exact HO_8.out⟩,⟨by (with_reducible repeat (first|apply Kd.R_alloc|apply Kd.R_drewN|apply Kd.R_drew)); exact HO_11.out⟩,⟨by (with_reducible repeat (first|apply Kd.R_alloc|apply Kd.R_drewN|apply Kd.R_drew)); exact Kd.R_mono HO478.out (fun _ hk=>⟨hk.1.2,hk.2⟩)⟩,⟨by repeat (first|(with_reducible first|exact HB.out|apply zA|apply zN|apply zD)|exact HB.out)⟩⟩
         case round =>
          clear H'
          try clear c1
          try clear p1
          try clear q1
          try clear hx1
          try clear c2
          try clear p2
          try clear c3
          try clear p3
          try clear q3
          try clear hx3
          try clear hf3
          try clear c4
          try clear p4
          try clear q4
          try clear hx4
          try clear c5
          try clear c5b0
          try clear c5b1
          try clear c6
          try clear p6
          try clear c8
          try clear c8b0
          try clear c8b1
          try clear c9
          try clear c12
          try clear c12b0
          try clear c13
          try clear c13b0
          try clear c14
          try clear c14b0
          try clear p15
          try clear q15
          try clear hx15
          try clear c16
          try clear c16b0
          try clear p17
          try clear q17
          try clear hx17
          try clear c18
          try clear c18b0
          try clear p19
          try clear q19
          try clear hx19
          try clear hf19
          try clear c22
          try clear c22b0
          try clear c23
          try clear c23b0
          try clear c23b1
          try clear c26
          try clear c26b0
          try clear c27
          try clear c27b0
          try clear c29
          try clear c29b0
          try clear c30
          try clear c30b0
          try clear c31
          try clear c31b0
          try clear c32
          try clear c32b0
          try clear c34
          try clear c34b0
          try clear c35
          try clear c35b0
          try clear p36
          try clear q36
          try clear hx36
          try clear hf36
          try clear c40
          try clear c40b0
          try clear c40b1
          try clear hx19_0
          try clear hx36_0
          try clear hx473_0
          try clear hx474_0
          try clear p1
          try clear p15
          try clear p17
          try clear p19
          try clear p2
          try clear p36
          try clear p473
          try clear p474
          try clear p6
          try clear q1
          try clear q15
          try clear q17
          try clear q19
          try clear q36
          try clear q473
          try clear q474
          obtain ⟨x14_5,x15_5,rfl,HA,HK5,HO_8,HO_11,HO_14,HB⟩:=hrel
          cases gk with
          | zero=>exact absurd HA.out (by simp [legateref04_Encrypt.l4])
          | succ k5 =>
           have H:=HA.out
           clear HA
           simp only [legateref04_Encrypt.l4] at H
           by_cases c43:x15_5<4
           case neg =>
            rw [if_neg c43] at H
            have c43b0:decide (x15_5<4)=false:=decide_eq_false c43
            clear c43
            have H':=zK H
            clear H
            go_wp2
            go_loopg [17] k5 (fun kq v17 w'=>∃ (x8_6:List Int) (x17_6:Int),v17=.int .i64 x17_6∧Aside0 (legateref04_Encrypt.l6 kq l0 t465 x8_6 x10_3 x14_5 x17_6=some r)∧Aside0 (kq≤k5)∧Aside0 (Kd.R (Kd.int .u8) 5 w' w.heap.size (fun k_=>some k_≠(v477:Value).ownBlock) v467 x8_6)∧Aside0 (Kd.R (Kd.int .u8) 5 w' w.heap.size (fun k_=>some k_≠(v467:Value).ownBlock) v477 x14_5)∧Aside0 (Below w.heap.size w w'))
            case atStart=>exact ⟨(x8_3),(0),(by first|rfl|(simp; done)|(simp [*]; done)),H',⟨Nat.le_refl _⟩,⟨by (with_reducible repeat (first|apply Kd.R_alloc|apply Kd.R_drewN|apply Kd.R_drew)); exact Kd.R_mono HO_8.out (fun _ hk=>hk.2)⟩,⟨by (with_reducible repeat (first|apply Kd.R_alloc|apply Kd.R_drewN|apply Kd.R_drew)); exact Kd.R_mono HO_14.out (fun _ hk=>hk.1)⟩,⟨by repeat (first|(with_reducible first|exact HB.out|apply zA|apply zN|apply zD)|exact HB.out)⟩⟩
            case round =>
             clear H'
             try clear p2
             try clear c4
             try clear p4
             try clear q4
             try clear hx4
             try clear hf4
             try clear c5
             try clear c6
             try clear p6
             try clear q6
             try clear hx6
             try clear hf6
             try clear c9
             try clear c43
             try clear c43b0
             try clear c44
             try clear c44b0
             try clear c46
             try clear c46b0
             try clear c47
             try clear c47b0
             try clear p47
             try clear q47
             try clear hx47
             try clear c48
             try clear c48b0
             try clear p48
             try clear q48
             try clear hx48
             try clear p49
             try clear q49
             try clear hx49
             try clear hf49
             try clear c50
             try clear c50b0
             try clear c53
             try clear c53b0
             try clear c54
             try clear c54b0
             try clear c57
             try clear c57b0
             try clear c58
             try clear c58b0
             try clear c60
             try clear c60b0
             try clear c61
             try clear c61b0
             try clear p62
             try clear q62
             try clear hx62
             try clear hf62
             try clear p64
             try clear hx479_0
             try clear hx481_0
             try clear hx483_0
             try clear hx485_0
             try clear hx486_0
             try clear hx49_0
             try clear hx62_0
             try clear p479
             try clear p481
             try clear p483
             try clear p485
             try clear p486
             try clear p49
             try clear p62
             try clear q479
             try clear q481
             try clear q483
             try clear q485
             try clear q486
             try clear q49
             try clear q62
             obtain ⟨x8_6,x17_6,rfl,HA,HK6,HO_8,HO_14,HB⟩:=hrel
             cases gk with
             | zero=>exact absurd HA.out (by simp [legateref04_Encrypt.l6])
             | succ k6 =>
              have H:=HA.out
              clear HA
              simp only [legateref04_Encrypt.l6] at H
              by_cases c71:x17_6<16
              case neg =>
               rw [if_neg c71] at H
               have c71b0:decide (x17_6<16)=false:=decide_eq_false c71
               clear c71
               have H':=zK H
               clear H
               go_wp2
               go_roundg k6
               case measure=>have:=HJ3.out; have:=HK2.out; have:=HK3.out; have:=HK4.out; have:=HK5.out; have:=HK6.out; omega
               case rel=>exact ⟨(x8_6),(wrap64 (x10_3+1)),(by first|rfl|(simp; done)|(simp [*]; done)),H',⟨by have:=HJ3.out; have:=HK2.out; have:=HK3.out; have:=HK4.out; have:=HK5.out; have:=HK6.out; omega⟩,⟨by (with_reducible repeat (first|apply Kd.R_alloc|apply Kd.R_drewN|apply Kd.R_drew)); exact Kd.R_mono HO_8.out (fun _ hk=>trivial)⟩,⟨by repeat (first|(with_reducible first|exact HB.out|apply zA|apply zN|apply zD)|exact HB.out)⟩⟩
              rw [if_pos c71] at H
              have c71b0:decide (x17_6<16)=true:=decide_eq_true c71
              clear c71
              by_cases c72:0≤x17_6
              case neg =>
               rw [if_neg c72] at H
               exact absurd H (by simp)
              rw [if_pos c72] at H
              have c72b0:decide (0≤x17_6)=true:=decide_eq_true c72
              clear c72
              by_cases c73:x17_6<(x14_5.length:Int)
              case neg =>
               rw [if_neg c73] at H
               exact absurd H (by simp)
              rw [if_pos c73] at H
              have c73b0:decide (x17_6<(x14_5.length:Int))=true:=decide_eq_true c73
              clear c73
              obtain ⟨ji74,hji74⟩:∃ j_:Int,(wrap64 ((wrap64 (16 * x10_3))+x17_6))=j_:=⟨_,rfl⟩
              replace H:(if 0≤(ji74) then (if (ji74)<(t465.size:Int) then (if x17_6<(x8_6.length:Int) then (legateref04_Encrypt.l6 k6 l0 t465 (x8_6.set (x17_6:Int).toNat (Go.bits .xor .u8 (rd x14_5 x17_6) (bt t465 (ji74)))) x10_3 x14_5 (wrap64 (x17_6+1))) else (none)) else (none)) else (none))=some r:=by first|(rw [hji74] at H; exact H)|(simp only [hji74] at H ⊢; exact H)
              have hji74w:(IntKind.i64.wrap ((wrap64 (16 * x10_3))+x17_6))=ji74:=(i64_w _).trans hji74
              by_cases c75:0≤(ji74)
              case neg =>
               rw [if_neg c75] at H
               exact absurd H (by simp)
              rw [if_pos c75] at H
              have c75b0:decide (0≤(ji74))=true:=decide_eq_true c75
              clear c75
              by_cases c76:(ji74)<(t465.size:Int)
              case neg =>
               rw [if_neg c76] at H
               exact absurd H (by simp)
              rw [if_pos c76] at H
              have c76b0:decide ((ji74)<(t465.size:Int))=true:=decide_eq_true c76
              clear c76
              by_cases c78:x17_6<(x8_6.length:Int)
              case neg =>
               rw [if_neg c78] at H
               exact absurd H (by simp)
              rw [if_pos c78] at H
              have c78b0:decide (x17_6<(x8_6.length:Int))=true:=decide_eq_true c78
              clear c78
              obtain ⟨y489,hy489⟩:∃ y_:List Int,y_=(x8_6.set (x17_6:Int).toNat (Go.bits .xor .u8 (rd x14_5 x17_6) (bt t465 (ji74)))):=⟨_,rfl⟩
              replace H:(legateref04_Encrypt.l6 k6 l0 t465 y489 x10_3 x14_5 (wrap64 (x17_6+1)))=some r:=by first|(rw [hy489]; with_reducible exact H)|(have H2_:=(Option.bind_some _ _).symm.trans H; rw [hy489]; with_reducible exact H2_)|(have H2_:=(Option.bind_some _ _).symm.trans H; with_reducible exact H2_)|with_reducible exact H|(rw [hy489]; exact H)|exact H
              have Ny489:=zK hy489
              clear hy489
              have H':=zK H
              clear H
              try go_wp2
              have n0_:=zK (Kd.R_drew HO_8.out)
              have n1_:=zK (Kd.R_drew HO_14.out)
              have n2_:=zK (zD HB.out)
              clear HO_8
              clear HO_14
              clear HB
              have HO_8:=n0_
              have HO_14:=n1_
              have HB:=n2_
              clear n0_ n1_ n2_
              obtain ⟨Ao81,co81,eo81⟩:=Kd.R_slice HO_14.out
              (first|subst eo81|(injection eo81 with f1_ f2_ f3_; have f4_:=f1_.symm; have f5_:=f3_.symm; clear f1_ f2_ f3_; subst f4_; subst f5_))
              have p488:0≤(x17_6:Int):=of_decide_eq_true (by first|(with_reducible assumption)|assumption)
              have q488:x17_6<(x14_5.length:Int):=of_decide_eq_true (by first|(with_reducible assumption)|assumption)
              obtain ⟨ad488,e488,hx488_0⟩:=Kd.at_int (Kd.R_reads' HO_14.out).2.2 x17_6 p488 q488
              cases e488
              replace p488:=eq_true p488
              replace q488:=eq_true q488
              have p77:0≤((ji74):Int):=of_decide_eq_true (by first|(with_reducible assumption)|assumption)
              have q77:(ji74)<(t465.size:Int):=of_decide_eq_true (by first|(with_reducible assumption)|assumption)
              have hx77:=bt_at t465 (ji74)
              replace p77:=eq_true p77
              replace q77:=eq_true q77
              have p79:0≤(x17_6:Int):=of_decide_eq_true (by first|(with_reducible assumption)|assumption)
              have q79:(x17_6:Int)<((x8_6.length:Int):Int):=of_decide_eq_true (by first|(with_reducible assumption)|assumption)
              obtain ⟨go79,co79,eo79,gb79,gl79,cl79,HG79⟩:=Kd.R_form HO_8.out (by omega)
              (first|cases eo79|(injection eo79 with ea_ en_ ec_; (first|subst ea_|(injection ea_ with ea_; subst ea_)); subst ec_; clear en_))
              have GB79:=zK gb79
              have GG79:=zK HG79
              clear gb79 gl79 HG79
              obtain ⟨hx79_0,hf79_0⟩:=Kd.R_celln 0 HO_8.out (x17_6:Int) p79 q79
              replace p79:=eq_true p79
              replace q79:=eq_true q79
              have HP82:=Kd.R_putn HO_8.out (x17_6:Int) (Go.bits .xor .u8 (rd x14_5 x17_6) (bt t465 (ji74)))
              rw [← Ny489.out] at HP82
              have HQ82:=zK HP82
              clear HP82
              refine start_ (n:=15) (S:=fun w'=>w'.cell? (ad488.add (x17_6).toNat)=some (.int .u8 (rd x14_5 x17_6))) (ds:=[14]) #[G,G,G,G,G,G,G,G,G,G,G,G,G,G,G] (by kernel_rfl) rfl rfl (hx488_0) (fun hHeld=>?_); refine with_tabW legateref04_Encrypt.tab33 legateref04_Encrypt.bits33 (fun HT_ HW_=>?_)
              generalize wr.drew=w80 at HO_8 HO_14 HB GG79 HQ82 hf79_0 hx488_0 hx79_0 hHeld ⊢
              refine zq 0 (some 149) ?_ #[O,G,G,G,G,G,G,G,G,G,G,G,G,G,G] rfl rfl (any_of HT_.out (by kernel_rfl)) (fun _ _ _ h=>h) (Or.inl ⟨by rfl,?_⟩) ?_ ?_ ?_
              rotate_left;(intro w';go_simp;with_reducible rfl);rotate_left;(simp only [Act.put,zp];rfl)
              refine zq 1 (some 150) ?_ #[O,O,G,G,G,G,G,G,G,G,G,G,G,G,G] rfl rfl (any_of HT_.out (by kernel_rfl)) (fun _ _ _ h=>h) (Or.inl ⟨by rfl,?_⟩) ?_ ?_ ?_
              rotate_left;(intro w';go_simp;with_reducible rfl);rotate_left;(simp only [Act.put,zp];rfl)
              refine zq 2 (some 151) ?_ #[O,O,O,G,G,G,G,G,G,G,G,G,G,G,G] rfl rfl (any_of HT_.out (by kernel_rfl)) (fun _ _ _ h=>h) (Or.inl ⟨by rfl,?_⟩) ?_ ?_ ?_
              rotate_left;(intro w';go_simp;with_reducible rfl);rotate_left;(simp only [Act.put,zp];rfl)
              refine zq 3 (some 152) ?_ #[O,O,O,O,G,G,G,G,G,G,G,G,G,G,G] rfl rfl (any_of HT_.out (by kernel_rfl)) (fun _ _ _ h=>h) (Or.inl ⟨by rfl,?_⟩) ?_ ?_ ?_
              rotate_left;(intro w';go_simp;with_reducible rfl);rotate_left;(simp only [Act.put,zp];rfl)
              refine zq 4 (some 153) ?_ #[O,O,O,O,O,G,G,G,G,G,G,G,G,G,G] rfl rfl (any_of HT_.out (by kernel_rfl)) (fun _ _ _ h=>h) (Or.inl ⟨by rfl,?_⟩) ?_ ?_ ?_
              rotate_left;(intro w';go_simp;with_reducible rfl);rotate_left;(simp only [Act.put,zp];rfl)
              refine zq 6 (some 155) ?_ #[O,O,O,O,O,G,O,G,G,G,G,G,G,G,G] rfl rfl (any_of HT_.out (by kernel_rfl)) (fun _ _ _ h=>h) (Or.inl ⟨by rfl,?_⟩) ?_ ?_ ?_
              rotate_left;(intro w';go_simp;with_reducible rfl);rotate_left;(simp only [Act.put,zp];rfl)
              refine zq 7 (some 156) ?_ #[O,O,O,O,O,G,O,O,G,G,G,G,G,G,G] rfl rfl (any_of HT_.out (by kernel_rfl)) (fun _ _ _ h=>h) (Or.inl ⟨by rfl,?_⟩) ?_ ?_ ?_
              rotate_left;(intro w';go_simp;with_reducible rfl);rotate_left;(simp only [Act.put,zp];rfl)
              refine zq 8 (some 157) ?_ #[O,O,O,O,O,G,O,O,O,G,G,G,G,G,G] rfl rfl (any_of HT_.out (by kernel_rfl)) (fun _ _ _ h=>h) (Or.inl ⟨by rfl,?_⟩) ?_ ?_ ?_
              rotate_left;(intro w';go_simp;with_reducible rfl);rotate_left;(simp only [Act.put,zp];rfl)
              refine zq 9 (some 158) ?_ #[O,O,O,O,O,G,O,O,O,O,G,G,G,G,G] rfl rfl (any_of HT_.out (by kernel_rfl)) (fun _ _ _ h=>h) (Or.inl ⟨by rfl,?_⟩) ?_ ?_ ?_
              rotate_left;(intro w';go_simp;with_reducible rfl);rotate_left;(simp only [Act.put,zp];rfl)
              refine zq 10 (some 159) ?_ #[O,O,O,O,O,G,O,O,O,O,O,G,G,G,G] rfl rfl (any_of HT_.out (by kernel_rfl)) (fun _ _ _ h=>h) (Or.inl ⟨by rfl,?_⟩) ?_ ?_ ?_
              rotate_left;(intro w';go_simp;with_reducible rfl);rotate_left;(simp only [Act.put,zp];rfl)
              refine take_ (i:=5) (N:=some 154) (v:=?_) (a':=?_) #[O,O,O,O,O,O,O,O,O,O,O,G,G,G,G] rfl rfl (take_ofW HT_.out HW_.out (by kernel_rfl)) (fun _ _ _ h=>h) (Or.inl ⟨by rfl,?_⟩) hHeld ?_ ?_
              rotate_left
              ·intro w' s0
               go_simp
               with_reducible rfl
              rotate_left
              ·simp only [Act.put,zp]
               rfl
              refine take_ (i:=11) (N:=some 160) (v:=?_) (a':=?_) #[O,O,O,O,O,O,O,O,O,O,O,O,G,G,G] rfl rfl (take_ofW HT_.out HW_.out (by kernel_rfl)) (fun _ _ _ h=>h) (Or.inl ⟨by rfl,?_⟩) hHeld ?_ ?_
              rotate_left
              ·intro w' s0
               go_simp
               with_reducible rfl
              rotate_left
              ·simp only [Act.put,zp]
               rfl
              refine zq 12 (some 161) ?_ #[O,O,O,O,O,O,O,O,O,O,O,O,O,G,G] rfl rfl (any_of HT_.out (by kernel_rfl)) (fun _ _ _ h=>h) (Or.inl ⟨by rfl,?_⟩) ?_ ?_ ?_
              rotate_left;(intro w';go_simp;with_reducible rfl);rotate_left;(simp only [Act.put,zp];rfl)
              refine zq 13 (some 162) ?_ #[O,O,O,O,O,O,O,O,O,O,O,O,O,O,G] rfl rfl (any_of HT_.out (by kernel_rfl)) (fun _ _ _ h=>h) (Or.inl ⟨by rfl,?_⟩) ?_ ?_ ?_
              rotate_left;(intro w';go_simp;with_reducible rfl);rotate_left;(simp only [Act.put,zp];rfl)
              refine last_ (i:=14) (N:=none) #[O,O,O,O,O,O,O,O,O,O,O,O,O,O,O] rfl rfl (one_of HT_.out (by kernel_rfl)) (by decide) (fun K hK=>?_)
              refine skip_ (w1:=?_) (by rfl) rfl ?_ ?_
              rotate_left
              ·go_simp
               rfl
              refine hK.out _ _ ?_
              clear hK K
              refine done_ (done_of HT_.out (by kernel_rfl)) ?_
              try go_wp2
              go_roundg k6
              case measure=>have:=HJ3.out; have:=HK2.out; have:=HK3.out; have:=HK4.out; have:=HK5.out; have:=HK6.out; omega
              case rel=>exact ⟨(y489),(wrap64 (x17_6+1)),(by first|rfl|(simp; done)|(simp [*]; done)),H',⟨by have:=HJ3.out; have:=HK2.out; have:=HK3.out; have:=HK4.out; have:=HK5.out; have:=HK6.out; omega⟩,⟨by (with_reducible repeat (first|apply Kd.R_alloc|apply Kd.R_drewN|apply Kd.R_drew)); exact HQ82.out⟩,⟨by (with_reducible repeat (first|apply Kd.R_alloc|apply Kd.R_drewN|apply Kd.R_drew)); exact Kd.R_mono (Kd.R_far (p:=⟨go79,(x17_6:Int).toNat,none⟩) (Kd.R_mono HO_14.out (fun k_ hk=>(⟨hk,fun e_=>hk (by rw [e_]; rfl)⟩:_∧k_≠go79))) (fun _ hk=>hk.2) (.int .u8 (Go.bits .xor .u8 (rd x14_5 x17_6) (bt t465 (ji74))))) (fun _ hk=>hk.1)⟩,⟨by repeat (first|(with_reducible first|exact HB.out|apply zA|apply zN|apply zD|refine below_set ?_ GB79.out)|exact HB.out)⟩⟩
           rw [if_pos c43] at H
           have c43b0:decide (x15_5<4)=true:=decide_eq_true c43
           clear c43
           have H':=zK H
           clear H
           go_wp2
           go_loopg [16] k5 (fun kq v16 w'=>∃ (x14_6:List Int) (x16_6:Int),v16=.int .i64 x16_6∧Aside0 (legateref04_Encrypt.l5 kq l0 t465 x8_3 x10_3 x11_4 x14_6 x15_5 x16_6=some r)∧Aside0 (kq≤k5)∧Aside0 (Kd.R (Kd.int .u8) 5 w' w.heap.size (fun k_=>some k_≠(v471:Value).ownBlock∧some k_≠(v477:Value).ownBlock) v467 x8_3)∧Aside0 (Kd.R (Kd.int .u8) 5 w' w.heap.size (fun k_=>some k_≠(v467:Value).ownBlock∧some k_≠(v477:Value).ownBlock) v471 x11_4)∧Aside0 (Kd.R (Kd.int .u8) 5 w' w.heap.size (fun k_=>some k_≠(v467:Value).ownBlock∧some k_≠(v471:Value).ownBlock) v477 x14_6)∧Aside0 (Below w.heap.size w w'))
           case atStart=>exact ⟨(x14_5),(0),(by first|rfl|(simp; done)|(simp [*]; done)),H',⟨Nat.le_refl _⟩,⟨by (with_reducible repeat (first|apply Kd.R_alloc|apply Kd.R_drewN|apply Kd.R_drew)); exact HO_8.out⟩,⟨by (with_reducible repeat (first|apply Kd.R_alloc|apply Kd.R_drewN|apply Kd.R_drew)); exact HO_11.out⟩,⟨by (with_reducible repeat (first|apply Kd.R_alloc|apply Kd.R_drewN|apply Kd.R_drew)); exact HO_14.out⟩,⟨by repeat (first|(with_reducible first|exact HB.out|apply zA|apply zN|apply zD)|exact HB.out)⟩⟩
           case round =>
            clear H'
            try clear c1
            try clear p1
            try clear q1
            try clear hx1
            try clear c2
            try clear p2
            try clear c3
            try clear p3
            try clear q3
            try clear hx3
            try clear hf3
            try clear c4
            try clear p4
            try clear q4
            try clear hx4
            try clear c5
            try clear c5b0
            try clear c5b1
            try clear c6
            try clear p6
            try clear c8
            try clear c8b0
            try clear c8b1
            try clear c9
            try clear c12
            try clear c12b0
            try clear c13
            try clear c13b0
            try clear c14
            try clear c14b0
            try clear p15
            try clear q15
            try clear hx15
            try clear c16
            try clear c16b0
            try clear p17
            try clear q17
            try clear hx17
            try clear c18
            try clear c18b0
            try clear p19
            try clear q19
            try clear hx19
            try clear hf19
            try clear c22
            try clear c22b0
            try clear c23
            try clear c23b0
            try clear c23b1
            try clear c26
            try clear c26b0
            try clear c27
            try clear c27b0
            try clear c29
            try clear c29b0
            try clear c30
            try clear c30b0
            try clear c31
            try clear c31b0
            try clear c32
            try clear c32b0
            try clear c34
            try clear c34b0
            try clear c35
            try clear c35b0
            try clear p36
            try clear q36
            try clear hx36
            try clear hf36
            try clear c40
            try clear c40b0
            try clear c40b1
            try clear c43
            try clear c43b0
            try clear hx19_0
            try clear hx36_0
            try clear hx473_0
            try clear hx474_0
            try clear p1
            try clear p15
            try clear p17
            try clear p19
            try clear p2
            try clear p3
            try clear p36
            try clear p4
            try clear p473
            try clear p474
            try clear p6
            try clear q1
            try clear q15
            try clear q17
            try clear q19
            try clear q3
            try clear q36
            try clear q4
            try clear q473
            try clear q474
            obtain ⟨x14_6,x16_6,rfl,HA,HK6,HO_8,HO_11,HO_14,HB⟩:=hrel
            cases gk with
            | zero=>exact absurd HA.out (by simp [legateref04_Encrypt.l5])
            | succ k6 =>
             have H:=HA.out
             clear HA
             simp only [legateref04_Encrypt.l5] at H
             by_cases c44:x16_6<4
             case neg =>
              rw [if_neg c44] at H
              have c44b0:decide (x16_6<4)=false:=decide_eq_false c44
              clear c44
              have H':=zK H
              clear H
              go_wp2
              go_roundg k6
              case measure=>have:=HJ3.out; have:=HK2.out; have:=HK3.out; have:=HK4.out; have:=HK5.out; have:=HK6.out; omega
              case rel=>exact ⟨(x14_6),(wrap64 (x15_5+1)),(by first|rfl|(simp; done)|(simp [*]; done)),H',⟨by have:=HJ3.out; have:=HK2.out; have:=HK3.out; have:=HK4.out; have:=HK5.out; have:=HK6.out; omega⟩,⟨by (with_reducible repeat (first|apply Kd.R_alloc|apply Kd.R_drewN|apply Kd.R_drew)); exact HO_8.out⟩,⟨by (with_reducible repeat (first|apply Kd.R_alloc|apply Kd.R_drewN|apply Kd.R_drew)); exact HO_11.out⟩,⟨by (with_reducible repeat (first|apply Kd.R_alloc|apply Kd.R_drewN|apply Kd.R_drew)); exact HO_14.out⟩,⟨by repeat (first|(with_reducible first|exact HB.out|apply zA|apply zN|apply zD)|exact HB.out)⟩⟩
             rw [if_pos c44] at H
             have c44b0:decide (x16_6<4)=true:=decide_eq_true c44
             clear c44
             obtain ⟨ji45,hji45⟩:∃ j_:Int,(wrap64 ((wrap64 (4 * x15_5))+x16_6))=j_:=⟨_,rfl⟩
             replace H:(if 0≤(ji45) then (if (ji45)<(x11_4.length:Int) then (if (ji45)<(x14_6.length:Int) then ((some (x14_6.set ((ji45):Int).toNat (rd x11_4 (ji45)):List Int)).bind fun y480=>(if x10_3<10 then ((legateref04_Times.f k6 (rd x11_4 (ji45)) 2).bind fun t482=>(if 0≤(wrap64 ((wrap64 (4 * x15_5))+(Int.tmod (wrap64 (x16_6+1)) 4))) then (if (wrap64 ((wrap64 (4 * x15_5))+(Int.tmod (wrap64 (x16_6+1)) 4)))<(x11_4.length:Int) then ((legateref04_Times.f k6 (rd x11_4 (wrap64 ((wrap64 (4 * x15_5))+(Int.tmod (wrap64 (x16_6+1)) 4)))) 3).bind fun t484=>(if 0≤(wrap64 ((wrap64 (4 * x15_5))+(Int.tmod (wrap64 (x16_6+2)) 4))) then (if (wrap64 ((wrap64 (4 * x15_5))+(Int.tmod (wrap64 (x16_6+2)) 4)))<(x11_4.length:Int) then (if 0≤(wrap64 ((wrap64 (4 * x15_5))+(Int.tmod (wrap64 (x16_6+3)) 4))) then (if (wrap64 ((wrap64 (4 * x15_5))+(Int.tmod (wrap64 (x16_6+3)) 4)))<(x11_4.length:Int) then (legateref04_Encrypt.l5 k6 l0 t465 x8_3 x10_3 x11_4 (y480.set ((ji45):Int).toNat (Go.bits .xor .u8 (Go.bits .xor .u8 (Go.bits .xor .u8 t482 t484) (rd x11_4 (wrap64 ((wrap64 (4 * x15_5))+(Int.tmod (wrap64 (x16_6+2)) 4))))) (rd x11_4 (wrap64 ((wrap64 (4 * x15_5))+(Int.tmod (wrap64 (x16_6+3)) 4)))))) x15_5 (wrap64 (x16_6+1))) else (none)) else (none)) else (none)) else (none))) else (none)) else (none))) else (legateref04_Encrypt.l5 k6 l0 t465 x8_3 x10_3 x11_4 y480 x15_5 (wrap64 (x16_6+1))))) else (none)) else (none)) else (none))=some r:=by first|(rw [hji45] at H; exact H)|(simp only [hji45] at H ⊢; exact H)
             have hji45w:(IntKind.i64.wrap ((wrap64 (4 * x15_5))+x16_6))=ji45:=(i64_w _).trans hji45
             by_cases c46:0≤(ji45)
             case neg =>
              rw [if_neg c46] at H
              exact absurd H (by simp)
             rw [if_pos c46] at H
             have c46b0:decide (0≤(ji45))=true:=decide_eq_true c46
             clear c46
             by_cases c47:(ji45)<(x11_4.length:Int)
             case neg =>
              rw [if_neg c47] at H
              exact absurd H (by simp)
             rw [if_pos c47] at H
             have c47b0:decide ((ji45)<(x11_4.length:Int))=true:=decide_eq_true c47
             clear c47
             by_cases c48:(ji45)<(x14_6.length:Int)
             case neg =>
              rw [if_neg c48] at H
              exact absurd H (by simp)
             rw [if_pos c48] at H
             have c48b0:decide ((ji45)<(x14_6.length:Int))=true:=decide_eq_true c48
             clear c48
             obtain ⟨y480,hy480⟩:∃ y_:List Int,y_=(x14_6.set ((ji45):Int).toNat (rd x11_4 (ji45))):=⟨_,rfl⟩
             replace H:(if x10_3<10 then ((legateref04_Times.f k6 (rd x11_4 (ji45)) 2).bind fun t482=>(if 0≤(wrap64 ((wrap64 (4 * x15_5))+(Int.tmod (wrap64 (x16_6+1)) 4))) then (if (wrap64 ((wrap64 (4 * x15_5))+(Int.tmod (wrap64 (x16_6+1)) 4)))<(x11_4.length:Int) then ((legateref04_Times.f k6 (rd x11_4 (wrap64 ((wrap64 (4 * x15_5))+(Int.tmod (wrap64 (x16_6+1)) 4)))) 3).bind fun t484=>(if 0≤(wrap64 ((wrap64 (4 * x15_5))+(Int.tmod (wrap64 (x16_6+2)) 4))) then (if (wrap64 ((wrap64 (4 * x15_5))+(Int.tmod (wrap64 (x16_6+2)) 4)))<(x11_4.length:Int) then (if 0≤(wrap64 ((wrap64 (4 * x15_5))+(Int.tmod (wrap64 (x16_6+3)) 4))) then (if (wrap64 ((wrap64 (4 * x15_5))+(Int.tmod (wrap64 (x16_6+3)) 4)))<(x11_4.length:Int) then (legateref04_Encrypt.l5 k6 l0 t465 x8_3 x10_3 x11_4 (y480.set ((ji45):Int).toNat (Go.bits .xor .u8 (Go.bits .xor .u8 (Go.bits .xor .u8 t482 t484) (rd x11_4 (wrap64 ((wrap64 (4 * x15_5))+(Int.tmod (wrap64 (x16_6+2)) 4))))) (rd x11_4 (wrap64 ((wrap64 (4 * x15_5))+(Int.tmod (wrap64 (x16_6+3)) 4)))))) x15_5 (wrap64 (x16_6+1))) else (none)) else (none)) else (none)) else (none))) else (none)) else (none))) else (legateref04_Encrypt.l5 k6 l0 t465 x8_3 x10_3 x11_4 y480 x15_5 (wrap64 (x16_6+1))))=some r:=by first|(rw [hy480]; with_reducible exact H)|(have H2_:=(Option.bind_some _ _).symm.trans H; rw [hy480]; with_reducible exact H2_)|(have H2_:=(Option.bind_some _ _).symm.trans H; with_reducible exact H2_)|with_reducible exact H|(rw [hy480]; exact H)|exact H
             have Ny480:=zK hy480
             clear hy480
             by_cases c50:x10_3<10
             case neg =>
              rw [if_neg c50] at H
              have c50b0:decide (x10_3<10)=false:=decide_eq_false c50
              clear c50
              have H':=zK H
              clear H
              obtain ⟨Ao68,co68,eo68⟩:=Kd.R_slice HO_11.out
              subst eo68
              have p479:0≤((ji45):Int):=of_decide_eq_true (by first|(with_reducible assumption)|assumption)
              have q479:(ji45)<(x11_4.length:Int):=of_decide_eq_true (by first|(with_reducible assumption)|assumption)
              obtain ⟨ad479,e479,hx479_0⟩:=Kd.at_int (Kd.R_reads' HO_11.out).2.2 (ji45) p479 q479
              cases e479
              replace p479:=eq_true p479
              replace q479:=eq_true q479
              have p49:0≤((ji45):Int):=of_decide_eq_true (by first|(with_reducible assumption)|assumption)
              have q49:((ji45):Int)<((x14_6.length:Int):Int):=of_decide_eq_true (by first|(with_reducible assumption)|assumption)
              obtain ⟨go49,co49,eo49,gb49,gl49,cl49,HG49⟩:=Kd.R_form HO_14.out (by omega)
              (first|cases eo49|(injection eo49 with ea_ en_ ec_; (first|subst ea_|(injection ea_ with ea_; subst ea_)); subst ec_; clear en_))
              have GB49:=zK gb49
              have GG49:=zK HG49
              clear gb49 gl49 HG49
              obtain ⟨hx49_0,hf49_0⟩:=Kd.R_celln 0 HO_14.out ((ji45):Int) p49 q49
              replace p49:=eq_true p49
              replace q49:=eq_true q49
              have HP69:=Kd.R_putg HO_14.out ((ji45):Int) (rd x11_4 (ji45))
              go_wp2_with (first|((with_reducible refine gate_store (t:=5) (p:=97) rfl ?_); refine store_event (t:=5) (p:=97) (v:=?vo_w70) (w1:=(wr.setCell ⟨go49,((ji45):Int).toNat,none⟩ (.int .u8 (rd x11_4 (ji45))))) ?hg ?ho ?hn ?hr ?_; (case ho=>rfl); (case hg=>rfl); (case hn=>rfl); (case hr=>first|(go_simp; done)|(go_simp; rfl)); intro w70 hw; have hg:wr.grownBy w70 (some go49):=(by rw [hw]; exact HP69.2); have hp_:Kd.R (Kd.int .u8) 5 w70 w.heap.size (fun k_=>some k_≠(v467:Value).ownBlock∧some k_≠(.slice (some ad479) x11_4.length co68:Value).ownBlock) (.slice (some ⟨go49,0,none⟩) x14_6.length co49) y480:=(by rw [hw,Ny480.out]; exact HP69.1); clear HP69; have n0_:=zK (Kd.R_after (v:=(.slice (some ⟨go49,0,none⟩) x14_6.length co49)) (v1:=(.slice (some ⟨go49,0,none⟩) x14_6.length co49)) (ok:=(fun k_=>some k_≠(.slice (some ad479) x11_4.length co68:Value).ownBlock)) (by (with_reducible repeat (first|apply Kd.R_alloc|apply Kd.R_drewN|apply Kd.R_drew)); exact HO_8.out) hg (.inl rfl)); have n1_:=zK (Kd.R_after (v:=(.slice (some ⟨go49,0,none⟩) x14_6.length co49)) (v1:=(.slice (some ⟨go49,0,none⟩) x14_6.length co49)) (ok:=(fun k_=>some k_≠(v467:Value).ownBlock)) (by (with_reducible repeat (first|apply Kd.R_alloc|apply Kd.R_drewN|apply Kd.R_drew)); exact HO_11.out) hg (.inl rfl)); have n2_:=zK (hp_); have n3_:=zK ((by rw [hw]; exact below_set (HB.out) GB49.out:Below w.heap.size w w70)); clear HO_8; clear HO_11; clear HO_14; clear HB; have HO_8:=n0_; have HO_11:=n1_; have HO_14:=n2_; have HB:=n3_; clear n0_ n1_ n2_ n3_; clear hg hw hp_))
              go_roundg k6
              case measure=>have:=HJ3.out; have:=HK2.out; have:=HK3.out; have:=HK4.out; have:=HK5.out; have:=HK6.out; omega
              case rel=>exact ⟨(y480),(wrap64 (x16_6+1)),(by first|rfl|(simp; done)|(simp [*]; done)),H',⟨by have:=HJ3.out; have:=HK2.out; have:=HK3.out; have:=HK4.out; have:=HK5.out; have:=HK6.out; omega⟩,⟨by (with_reducible repeat (first|apply Kd.R_alloc|apply Kd.R_drewN|apply Kd.R_drew)); exact HO_8.out⟩,⟨by (with_reducible repeat (first|apply Kd.R_alloc|apply Kd.R_drewN|apply Kd.R_drew)); exact HO_11.out⟩,⟨by (with_reducible repeat (first|apply Kd.R_alloc|apply Kd.R_drewN|apply Kd.R_drew)); exact HO_14.out⟩,⟨by repeat (first|(with_reducible first|exact HB.out|apply zA|apply zN|apply zD)|exact HB.out)⟩⟩
             rw [if_pos c50] at H
             have c50b0:decide (x10_3<10)=true:=decide_eq_true c50
             clear c50
             replace H:=Option.bind_eq_some_iff.mp H
             obtain ⟨t482,A510,H⟩:=H
             replace H:(if 0≤(wrap64 ((wrap64 (4 * x15_5))+(Int.tmod (wrap64 (x16_6+1)) 4))) then (if (wrap64 ((wrap64 (4 * x15_5))+(Int.tmod (wrap64 (x16_6+1)) 4)))<(x11_4.length:Int) then ((legateref04_Times.f k6 (rd x11_4 (wrap64 ((wrap64 (4 * x15_5))+(Int.tmod (wrap64 (x16_6+1)) 4)))) 3).bind fun t484=>(if 0≤(wrap64 ((wrap64 (4 * x15_5))+(Int.tmod (wrap64 (x16_6+2)) 4))) then (if (wrap64 ((wrap64 (4 * x15_5))+(Int.tmod (wrap64 (x16_6+2)) 4)))<(x11_4.length:Int) then (if 0≤(wrap64 ((wrap64 (4 * x15_5))+(Int.tmod (wrap64 (x16_6+3)) 4))) then (if (wrap64 ((wrap64 (4 * x15_5))+(Int.tmod (wrap64 (x16_6+3)) 4)))<(x11_4.length:Int) then (legateref04_Encrypt.l5 k6 l0 t465 x8_3 x10_3 x11_4 (y480.set ((ji45):Int).toNat (Go.bits .xor .u8 (Go.bits .xor .u8 (Go.bits .xor .u8 t482 t484) (rd x11_4 (wrap64 ((wrap64 (4 * x15_5))+(Int.tmod (wrap64 (x16_6+2)) 4))))) (rd x11_4 (wrap64 ((wrap64 (4 * x15_5))+(Int.tmod (wrap64 (x16_6+3)) 4)))))) x15_5 (wrap64 (x16_6+1))) else (none)) else (none)) else (none)) else (none))) else (none)) else (none))=some r:=H
             have A51:=zK A510
             clear A510
             obtain ⟨ji52,hji52⟩:∃ j_:Int,(wrap64 ((wrap64 (4 * x15_5))+(Int.tmod (wrap64 (x16_6+1)) 4)))=j_:=⟨_,rfl⟩
             replace H:(if 0≤(ji52) then (if (ji52)<(x11_4.length:Int) then ((legateref04_Times.f k6 (rd x11_4 (ji52)) 3).bind fun t484=>(if 0≤(wrap64 ((wrap64 (4 * x15_5))+(Int.tmod (wrap64 (x16_6+2)) 4))) then (if (wrap64 ((wrap64 (4 * x15_5))+(Int.tmod (wrap64 (x16_6+2)) 4)))<(x11_4.length:Int) then (if 0≤(wrap64 ((wrap64 (4 * x15_5))+(Int.tmod (wrap64 (x16_6+3)) 4))) then (if (wrap64 ((wrap64 (4 * x15_5))+(Int.tmod (wrap64 (x16_6+3)) 4)))<(x11_4.length:Int) then (legateref04_Encrypt.l5 k6 l0 t465 x8_3 x10_3 x11_4 (y480.set ((ji45):Int).toNat (Go.bits .xor .u8 (Go.bits .xor .u8 (Go.bits .xor .u8 t482 t484) (rd x11_4 (wrap64 ((wrap64 (4 * x15_5))+(Int.tmod (wrap64 (x16_6+2)) 4))))) (rd x11_4 (wrap64 ((wrap64 (4 * x15_5))+(Int.tmod (wrap64 (x16_6+3)) 4)))))) x15_5 (wrap64 (x16_6+1))) else (none)) else (none)) else (none)) else (none))) else (none)) else (none))=some r:=by first|(rw [hji52] at H; exact H)|(simp only [hji52] at H ⊢; exact H)
             (try rw [hji52] at A51)
             have hji52w:(IntKind.i64.wrap ((wrap64 (4 * x15_5))+(Int.tmod (wrap64 (x16_6+1)) 4)))=ji52:=(i64_w _).trans hji52
             by_cases c53:0≤(ji52)
             case neg =>
              rw [if_neg c53] at H
              exact absurd H (by simp)
             rw [if_pos c53] at H
             have c53b0:decide (0≤(ji52))=true:=decide_eq_true c53
             clear c53
             by_cases c54:(ji52)<(x11_4.length:Int)
             case neg =>
              rw [if_neg c54] at H
              exact absurd H (by simp)
             rw [if_pos c54] at H
             have c54b0:decide ((ji52)<(x11_4.length:Int))=true:=decide_eq_true c54
             clear c54
             replace H:=Option.bind_eq_some_iff.mp H
             obtain ⟨t484,A550,H⟩:=H
             replace H:(if 0≤(wrap64 ((wrap64 (4 * x15_5))+(Int.tmod (wrap64 (x16_6+2)) 4))) then (if (wrap64 ((wrap64 (4 * x15_5))+(Int.tmod (wrap64 (x16_6+2)) 4)))<(x11_4.length:Int) then (if 0≤(wrap64 ((wrap64 (4 * x15_5))+(Int.tmod (wrap64 (x16_6+3)) 4))) then (if (wrap64 ((wrap64 (4 * x15_5))+(Int.tmod (wrap64 (x16_6+3)) 4)))<(x11_4.length:Int) then (legateref04_Encrypt.l5 k6 l0 t465 x8_3 x10_3 x11_4 (y480.set ((ji45):Int).toNat (Go.bits .xor .u8 (Go.bits .xor .u8 (Go.bits .xor .u8 t482 t484) (rd x11_4 (wrap64 ((wrap64 (4 * x15_5))+(Int.tmod (wrap64 (x16_6+2)) 4))))) (rd x11_4 (wrap64 ((wrap64 (4 * x15_5))+(Int.tmod (wrap64 (x16_6+3)) 4)))))) x15_5 (wrap64 (x16_6+1))) else (none)) else (none)) else (none)) else (none))=some r:=H
             have A55:=zK A550
             clear A550
             obtain ⟨ji56,hji56⟩:∃ j_:Int,(wrap64 ((wrap64 (4 * x15_5))+(Int.tmod (wrap64 (x16_6+2)) 4)))=j_:=⟨_,rfl⟩
             replace H:(if 0≤(ji56) then (if (ji56)<(x11_4.length:Int) then (if 0≤(wrap64 ((wrap64 (4 * x15_5))+(Int.tmod (wrap64 (x16_6+3)) 4))) then (if (wrap64 ((wrap64 (4 * x15_5))+(Int.tmod (wrap64 (x16_6+3)) 4)))<(x11_4.length:Int) then (legateref04_Encrypt.l5 k6 l0 t465 x8_3 x10_3 x11_4 (y480.set ((ji45):Int).toNat (Go.bits .xor .u8 (Go.bits .xor .u8 (Go.bits .xor .u8 t482 t484) (rd x11_4 (ji56))) (rd x11_4 (wrap64 ((wrap64 (4 * x15_5))+(Int.tmod (wrap64 (x16_6+3)) 4)))))) x15_5 (wrap64 (x16_6+1))) else (none)) else (none)) else (none)) else (none))=some r:=by first|(rw [hji56] at H; exact H)|(simp only [hji56] at H ⊢; exact H)
             (try rw [hji56] at A51)
             (try rw [hji56] at A55)
             have hji56w:(IntKind.i64.wrap ((wrap64 (4 * x15_5))+(Int.tmod (wrap64 (x16_6+2)) 4)))=ji56:=(i64_w _).trans hji56
             by_cases c57:0≤(ji56)
             case neg =>
              rw [if_neg c57] at H
              exact absurd H (by simp)
             rw [if_pos c57] at H
             have c57b0:decide (0≤(ji56))=true:=decide_eq_true c57
             clear c57
             by_cases c58:(ji56)<(x11_4.length:Int)
             case neg =>
              rw [if_neg c58] at H
              exact absurd H (by simp)
             rw [if_pos c58] at H
             have c58b0:decide ((ji56)<(x11_4.length:Int))=true:=decide_eq_true c58
             clear c58
             obtain ⟨ji59,hji59⟩:∃ j_:Int,(wrap64 ((wrap64 (4 * x15_5))+(Int.tmod (wrap64 (x16_6+3)) 4)))=j_:=⟨_,rfl⟩
             replace H:(if 0≤(ji59) then (if (ji59)<(x11_4.length:Int) then (legateref04_Encrypt.l5 k6 l0 t465 x8_3 x10_3 x11_4 (y480.set ((ji45):Int).toNat (Go.bits .xor .u8 (Go.bits .xor .u8 (Go.bits .xor .u8 t482 t484) (rd x11_4 (ji56))) (rd x11_4 (ji59)))) x15_5 (wrap64 (x16_6+1))) else (none)) else (none))=some r:=by first|(rw [hji59] at H; exact H)|(simp only [hji59] at H ⊢; exact H)
             (try rw [hji59] at A51)
             (try rw [hji59] at A55)
             have hji59w:(IntKind.i64.wrap ((wrap64 (4 * x15_5))+(Int.tmod (wrap64 (x16_6+3)) 4)))=ji59:=(i64_w _).trans hji59
             by_cases c60:0≤(ji59)
             case neg =>
              rw [if_neg c60] at H
              exact absurd H (by simp)
             rw [if_pos c60] at H
             have c60b0:decide (0≤(ji59))=true:=decide_eq_true c60
             clear c60
             by_cases c61:(ji59)<(x11_4.length:Int)
             case neg =>
              rw [if_neg c61] at H
              exact absurd H (by simp)
             rw [if_pos c61] at H
             have c61b0:decide ((ji59)<(x11_4.length:Int))=true:=decide_eq_true c61
             clear c61
             obtain ⟨y487,hy487⟩:∃ y_:List Int,y_=(y480.set ((ji45):Int).toNat (Go.bits .xor .u8 (Go.bits .xor .u8 (Go.bits .xor .u8 t482 t484) (rd x11_4 (ji56))) (rd x11_4 (ji59)))):=⟨_,rfl⟩
             replace H:(legateref04_Encrypt.l5 k6 l0 t465 x8_3 x10_3 x11_4 y487 x15_5 (wrap64 (x16_6+1)))=some r:=by first|(rw [hy487]; with_reducible exact H)|(have H2_:=(Option.bind_some _ _).symm.trans H; rw [hy487]; with_reducible exact H2_)|(have H2_:=(Option.bind_some _ _).symm.trans H; with_reducible exact H2_)|with_reducible exact H|(rw [hy487]; exact H)|exact H
             have Ny487:=zK hy487
             clear hy487
             have H':=zK H
             clear H
             obtain ⟨Ao63,co63,eo63⟩:=Kd.R_slice HO_11.out
             subst eo63
             have p479:0≤((ji45):Int):=of_decide_eq_true (by first|(with_reducible assumption)|assumption)
             have q479:(ji45)<(x11_4.length:Int):=of_decide_eq_true (by first|(with_reducible assumption)|assumption)
             obtain ⟨ad479,e479,hx479_0⟩:=Kd.at_int (Kd.R_reads' HO_11.out).2.2 (ji45) p479 q479
             cases e479
             replace p479:=eq_true p479
             replace q479:=eq_true q479
             have p49:0≤((ji45):Int):=of_decide_eq_true (by first|(with_reducible assumption)|assumption)
             have q49:((ji45):Int)<((x14_6.length:Int):Int):=of_decide_eq_true (by first|(with_reducible assumption)|assumption)
             obtain ⟨go49,co49,eo49,gb49,gl49,cl49,HG49⟩:=Kd.R_form HO_14.out (by omega)
             (first|cases eo49|(injection eo49 with ea_ en_ ec_; (first|subst ea_|(injection ea_ with ea_; subst ea_)); subst ec_; clear en_))
             have GB49:=zK gb49
             have GG49:=zK HG49
             clear gb49 gl49 HG49
             obtain ⟨hx49_0,hf49_0⟩:=Kd.R_celln 0 HO_14.out ((ji45):Int) p49 q49
             replace p49:=eq_true p49
             replace q49:=eq_true q49
             have HP64:=Kd.R_putg HO_14.out ((ji45):Int) (rd x11_4 (ji45))
             try go_wp2_with (first|((with_reducible refine gate_store (t:=5) (p:=97) rfl ?_); refine store_event (t:=5) (p:=97) (v:=?vo_w65) (w1:=(wr.setCell ⟨go49,((ji45):Int).toNat,none⟩ (.int .u8 (rd x11_4 (ji45))))) ?hg ?ho ?hn ?hr ?_; (case ho=>rfl); (case hg=>rfl); (case hn=>rfl); (case hr=>first|(go_simp; done)|(go_simp; rfl)); intro w65 hw; have hg:wr.grownBy w65 (some go49):=(by rw [hw]; exact HP64.2); have hp_:Kd.R (Kd.int .u8) 5 w65 w.heap.size (fun k_=>some k_≠(v467:Value).ownBlock∧some k_≠(.slice (some ad479) x11_4.length co63:Value).ownBlock) (.slice (some ⟨go49,0,none⟩) x14_6.length co49) y480:=(by rw [hw,Ny480.out]; exact HP64.1); clear HP64; have n0_:=zK (Kd.R_after (v:=(.slice (some ⟨go49,0,none⟩) x14_6.length co49)) (v1:=(.slice (some ⟨go49,0,none⟩) x14_6.length co49)) (ok:=(fun k_=>some k_≠(.slice (some ad479) x11_4.length co63:Value).ownBlock)) (by (with_reducible repeat (first|apply Kd.R_alloc|apply Kd.R_drewN|apply Kd.R_drew)); exact HO_8.out) hg (.inl rfl)); have n1_:=zK (Kd.R_after (v:=(.slice (some ⟨go49,0,none⟩) x14_6.length co49)) (v1:=(.slice (some ⟨go49,0,none⟩) x14_6.length co49)) (ok:=(fun k_=>some k_≠(v467:Value).ownBlock)) (by (with_reducible repeat (first|apply Kd.R_alloc|apply Kd.R_drewN|apply Kd.R_drew)); exact HO_11.out) hg (.inl rfl)); have n2_:=zK (hp_); have n3_:=zK ((by rw [hw]; exact below_set (HB.out) GB49.out:Below w.heap.size w w65)); clear HO_8; clear HO_11; clear HO_14; clear HB; have HO_8:=n0_; have HO_11:=n1_; have HO_14:=n2_; have HB:=n3_; clear n0_ n1_ n2_ n3_; clear hg hw hp_))
             have n0_:=zK (Kd.R_drew HO_8.out)
             have n1_:=zK (Kd.R_drew HO_11.out)
             have n2_:=zK (Kd.R_drew HO_14.out)
             have n3_:=zK (zD HB.out)
             clear HO_8
             clear HO_11
             clear HO_14
             clear HB
             have HO_8:=n0_
             have HO_11:=n1_
             have HO_14:=n2_
             have HB:=n3_
             clear n0_ n1_ n2_ n3_
             have p481:0≤((ji45):Int):=of_decide_eq_true (by first|(with_reducible assumption)|assumption)
             have q481:(ji45)<(x11_4.length:Int):=of_decide_eq_true (by first|(with_reducible assumption)|assumption)
             obtain ⟨ad481,e481,hx481_0⟩:=Kd.at_int (Kd.R_reads' HO_11.out).2.2 (ji45) p481 q481
             obtain rfl:ad479=ad481:=(by injection e481)
             replace p481:=eq_true p481
             replace q481:=eq_true q481
             have p483:0≤((ji52):Int):=of_decide_eq_true (by first|(with_reducible assumption)|assumption)
             have q483:(ji52)<(x11_4.length:Int):=of_decide_eq_true (by first|(with_reducible assumption)|assumption)
             obtain ⟨ad483,e483,hx483_0⟩:=Kd.at_int (Kd.R_reads' HO_11.out).2.2 (ji52) p483 q483
             obtain rfl:ad479=ad483:=(by injection e483)
             replace p483:=eq_true p483
             replace q483:=eq_true q483
             have p485:0≤((ji56):Int):=of_decide_eq_true (by first|(with_reducible assumption)|assumption)
             have q485:(ji56)<(x11_4.length:Int):=of_decide_eq_true (by first|(with_reducible assumption)|assumption)
             obtain ⟨ad485,e485,hx485_0⟩:=Kd.at_int (Kd.R_reads' HO_11.out).2.2 (ji56) p485 q485
             obtain rfl:ad479=ad485:=(by injection e485)
             replace p485:=eq_true p485
             replace q485:=eq_true q485
             have p486:0≤((ji59):Int):=of_decide_eq_true (by first|(with_reducible assumption)|assumption)
             have q486:(ji59)<(x11_4.length:Int):=of_decide_eq_true (by first|(with_reducible assumption)|assumption)
             obtain ⟨ad486,e486,hx486_0⟩:=Kd.at_int (Kd.R_reads' HO_11.out).2.2 (ji59) p486 q486
             obtain rfl:ad479=ad486:=(by injection e486)
             replace p486:=eq_true p486
             replace q486:=eq_true q486
             refine start_ (n:=46) (S:=fun w'=>w'.cell? (ad479.add ((ji45)).toNat)=some (.int .u8 (rd x11_4 (ji45)))∧w'.cell? (ad479.add ((ji52)).toNat)=some (.int .u8 (rd x11_4 (ji52)))∧w'.cell? (ad479.add ((ji56)).toNat)=some (.int .u8 (rd x11_4 (ji56)))∧w'.cell? (ad479.add ((ji59)).toNat)=some (.int .u8 (rd x11_4 (ji59)))) (ds:=[45]) #[G,G,G,G,G,G,G,G,G,G,G,G,G,G,G,G,G,G,G,G,G,G,G,G,G,G,G,G,G,G,G,G,G,G,G,G,G,G,G,G,G,G,G,G,G,G] (by kernel_rfl) rfl rfl ⟨hx481_0,hx483_0,hx485_0,hx486_0⟩ (fun hHeld=>?_); refine with_tabW legateref04_Encrypt.tab29 legateref04_Encrypt.bits29 (fun HT_ HW_=>?_)
             generalize w65.drew=w66 at HO_8 HO_11 HO_14 HB hx481_0 hx483_0 hx485_0 hx486_0 hHeld ⊢
             refine zq 0 (some 100) ?_ #[O,G,G,G,G,G,G,G,G,G,G,G,G,G,G,G,G,G,G,G,G,G,G,G,G,G,G,G,G,G,G,G,G,G,G,G,G,G,G,G,G,G,G,G,G,G] rfl rfl (any_of HT_.out (by kernel_rfl)) (fun _ _ _ h=>h) (Or.inl ⟨by rfl,?_⟩) ?_ ?_ ?_
             rotate_left;(intro w';go_simp;with_reducible rfl);rotate_left;(simp only [Act.put,zp];rfl)
             refine zq 1 (some 101) ?_ #[O,O,G,G,G,G,G,G,G,G,G,G,G,G,G,G,G,G,G,G,G,G,G,G,G,G,G,G,G,G,G,G,G,G,G,G,G,G,G,G,G,G,G,G,G,G] rfl rfl (any_of HT_.out (by kernel_rfl)) (fun _ _ _ h=>h) (Or.inl ⟨by rfl,?_⟩) ?_ ?_ ?_
             rotate_left;(intro w';go_simp;with_reducible rfl);rotate_left;(simp only [Act.put,zp];rfl)
             refine zq 2 (some 102) ?_ #[O,O,O,G,G,G,G,G,G,G,G,G,G,G,G,G,G,G,G,G,G,G,G,G,G,G,G,G,G,G,G,G,G,G,G,G,G,G,G,G,G,G,G,G,G,G] rfl rfl (any_of HT_.out (by kernel_rfl)) (fun _ _ _ h=>h) (Or.inl ⟨by rfl,?_⟩) ?_ ?_ ?_
             rotate_left;(intro w';go_simp;with_reducible rfl);rotate_left;(simp only [Act.put,zp];rfl)
             refine zq 3 (some 103) ?_ #[O,O,O,O,G,G,G,G,G,G,G,G,G,G,G,G,G,G,G,G,G,G,G,G,G,G,G,G,G,G,G,G,G,G,G,G,G,G,G,G,G,G,G,G,G,G] rfl rfl (any_of HT_.out (by kernel_rfl)) (fun _ _ _ h=>h) (Or.inl ⟨by rfl,?_⟩) ?_ ?_ ?_
             rotate_left;(intro w';go_simp;with_reducible rfl);rotate_left;(simp only [Act.put,zp];rfl)
             refine zq 4 (some 104) ?_ #[O,O,O,O,O,G,G,G,G,G,G,G,G,G,G,G,G,G,G,G,G,G,G,G,G,G,G,G,G,G,G,G,G,G,G,G,G,G,G,G,G,G,G,G,G,G] rfl rfl (any_of HT_.out (by kernel_rfl)) (fun _ _ _ h=>h) (Or.inl ⟨by rfl,?_⟩) ?_ ?_ ?_
             rotate_left;(intro w';go_simp;with_reducible rfl);rotate_left;(simp only [Act.put,zp];rfl)
             refine zq 5 (some 105) ?_ #[O,O,O,O,O,O,G,G,G,G,G,G,G,G,G,G,G,G,G,G,G,G,G,G,G,G,G,G,G,G,G,G,G,G,G,G,G,G,G,G,G,G,G,G,G,G] rfl rfl (any_of HT_.out (by kernel_rfl)) (fun _ _ _ h=>h) (Or.inl ⟨by rfl,?_⟩) ?_ ?_ ?_
             rotate_left;(intro w';go_simp;with_reducible rfl);rotate_left;(simp only [Act.put,zp];rfl)
             refine zq 6 (some 106) ?_ #[O,O,O,O,O,O,O,G,G,G,G,G,G,G,G,G,G,G,G,G,G,G,G,G,G,G,G,G,G,G,G,G,G,G,G,G,G,G,G,G,G,G,G,G,G,G] rfl rfl (any_of HT_.out (by kernel_rfl)) (fun _ _ _ h=>h) (Or.inl ⟨by rfl,?_⟩) ?_ ?_ ?_
             rotate_left;(intro w';go_simp;with_reducible rfl);rotate_left;(simp only [Act.put,zp];rfl)
             refine zq 7 (some 107) ?_ #[O,O,O,O,O,O,O,O,G,G,G,G,G,G,G,G,G,G,G,G,G,G,G,G,G,G,G,G,G,G,G,G,G,G,G,G,G,G,G,G,G,G,G,G,G,G] rfl rfl (any_of HT_.out (by kernel_rfl)) (fun _ _ _ h=>h) (Or.inl ⟨by rfl,?_⟩) ?_ ?_ ?_
             rotate_left;(intro w';go_simp;with_reducible rfl);rotate_left;(simp only [Act.put,zp];rfl)
             refine zq 8 (some 108) ?_ #[O,O,O,O,O,O,O,O,O,G,G,G,G,G,G,G,G,G,G,G,G,G,G,G,G,G,G,G,G,G,G,G,G,G,G,G,G,G,G,G,G,G,G,G,G,G] rfl rfl (any_of HT_.out (by kernel_rfl)) (fun _ _ _ h=>h) (Or.inl ⟨by rfl,?_⟩) ?_ ?_ ?_
             rotate_left;(intro w';go_simp;with_reducible rfl);rotate_left;(simp only [Act.put,zp];rfl)
             refine zq 9 (some 109) ?_ #[O,O,O,O,O,O,O,O,O,O,G,G,G,G,G,G,G,G,G,G,G,G,G,G,G,G,G,G,G,G,G,G,G,G,G,G,G,G,G,G,G,G,G,G,G,G] rfl rfl (any_of HT_.out (by kernel_rfl)) (fun _ _ _ h=>h) (Or.inl ⟨by rfl,?_⟩) ?_ ?_ ?_
             rotate_left;(intro w';go_simp;with_reducible rfl);rotate_left;(simp only [Act.put,zp];rfl)
             refine zq 10 (some 110) ?_ #[O,O,O,O,O,O,O,O,O,O,O,G,G,G,G,G,G,G,G,G,G,G,G,G,G,G,G,G,G,G,G,G,G,G,G,G,G,G,G,G,G,G,G,G,G,G] rfl rfl (any_of HT_.out (by kernel_rfl)) (fun _ _ _ h=>h) (Or.inl ⟨by rfl,?_⟩) ?_ ?_ ?_
             rotate_left;(intro w';go_simp;with_reducible rfl);rotate_left;(simp only [Act.put,zp];rfl)
             refine zq 13 (some 113) ?_ #[O,O,O,O,O,O,O,O,O,O,O,G,G,O,G,G,G,G,G,G,G,G,G,G,G,G,G,G,G,G,G,G,G,G,G,G,G,G,G,G,G,G,G,G,G,G] rfl rfl (any_of HT_.out (by kernel_rfl)) (fun _ _ _ h=>h) (Or.inl ⟨by rfl,?_⟩) ?_ ?_ ?_
             rotate_left;(intro w';go_simp;with_reducible rfl);rotate_left;(simp only [Act.put,zp];rfl)
             refine zq 14 (some 114) ?_ #[O,O,O,O,O,O,O,O,O,O,O,G,G,O,O,G,G,G,G,G,G,G,G,G,G,G,G,G,G,G,G,G,G,G,G,G,G,G,G,G,G,G,G,G,G,G] rfl rfl (any_of HT_.out (by kernel_rfl)) (fun _ _ _ h=>h) (Or.inl ⟨by rfl,?_⟩) ?_ ?_ ?_
             rotate_left;(intro w';go_simp;with_reducible rfl);rotate_left;(simp only [Act.put,zp];rfl)
             refine zq 15 (some 115) ?_ #[O,O,O,O,O,O,O,O,O,O,O,G,G,O,O,O,G,G,G,G,G,G,G,G,G,G,G,G,G,G,G,G,G,G,G,G,G,G,G,G,G,G,G,G,G,G] rfl rfl (any_of HT_.out (by kernel_rfl)) (fun _ _ _ h=>h) (Or.inl ⟨by rfl,?_⟩) ?_ ?_ ?_
             rotate_left;(intro w';go_simp;with_reducible rfl);rotate_left;(simp only [Act.put,zp];rfl)
             refine zq 16 (some 116) ?_ #[O,O,O,O,O,O,O,O,O,O,O,G,G,O,O,O,O,G,G,G,G,G,G,G,G,G,G,G,G,G,G,G,G,G,G,G,G,G,G,G,G,G,G,G,G,G] rfl rfl (any_of HT_.out (by kernel_rfl)) (fun _ _ _ h=>h) (Or.inl ⟨by rfl,?_⟩) ?_ ?_ ?_
             rotate_left;(intro w';go_simp;with_reducible rfl);rotate_left;(simp only [Act.put,zp];rfl)
             refine zq 17 (some 117) ?_ #[O,O,O,O,O,O,O,O,O,O,O,G,G,O,O,O,O,O,G,G,G,G,G,G,G,G,G,G,G,G,G,G,G,G,G,G,G,G,G,G,G,G,G,G,G,G] rfl rfl (any_of HT_.out (by kernel_rfl)) (fun _ _ _ h=>h) (Or.inl ⟨by rfl,?_⟩) ?_ ?_ ?_
             rotate_left;(intro w';go_simp;with_reducible rfl);rotate_left;(simp only [Act.put,zp];rfl)
             refine zq 18 (some 118) ?_ #[O,O,O,O,O,O,O,O,O,O,O,G,G,O,O,O,O,O,O,G,G,G,G,G,G,G,G,G,G,G,G,G,G,G,G,G,G,G,G,G,G,G,G,G,G,G] rfl rfl (any_of HT_.out (by kernel_rfl)) (fun _ _ _ h=>h) (Or.inl ⟨by rfl,?_⟩) ?_ ?_ ?_
             rotate_left;(intro w';go_simp;with_reducible rfl);rotate_left;(simp only [Act.put,zp];rfl)
             refine zq 19 (some 119) ?_ #[O,O,O,O,O,O,O,O,O,O,O,G,G,O,O,O,O,O,O,O,G,G,G,G,G,G,G,G,G,G,G,G,G,G,G,G,G,G,G,G,G,G,G,G,G,G] rfl rfl (any_of HT_.out (by kernel_rfl)) (fun _ _ _ h=>h) (Or.inl ⟨by rfl,?_⟩) ?_ ?_ ?_
             rotate_left;(intro w';go_simp;with_reducible rfl);rotate_left;(simp only [Act.put,zp];rfl)
             refine zq 20 (some 120) ?_ #[O,O,O,O,O,O,O,O,O,O,O,G,G,O,O,O,O,O,O,O,O,G,G,G,G,G,G,G,G,G,G,G,G,G,G,G,G,G,G,G,G,G,G,G,G,G] rfl rfl (any_of HT_.out (by kernel_rfl)) (fun _ _ _ h=>h) (Or.inl ⟨by rfl,?_⟩) ?_ ?_ ?_
             rotate_left;(intro w';go_simp;with_reducible rfl);rotate_left;(simp only [Act.put,zp];rfl)
             refine zq 24 (some 124) ?_ #[O,O,O,O,O,O,O,O,O,O,O,G,G,O,O,O,O,O,O,O,O,G,G,G,O,G,G,G,G,G,G,G,G,G,G,G,G,G,G,G,G,G,G,G,G,G] rfl rfl (any_of HT_.out (by kernel_rfl)) (fun _ _ _ h=>h) (Or.inl ⟨by rfl,?_⟩) ?_ ?_ ?_
             rotate_left;(intro w';go_simp;with_reducible rfl);rotate_left;(simp only [Act.put,zp];rfl)
             refine zq 25 (some 125) ?_ #[O,O,O,O,O,O,O,O,O,O,O,G,G,O,O,O,O,O,O,O,O,G,G,G,O,O,G,G,G,G,G,G,G,G,G,G,G,G,G,G,G,G,G,G,G,G] rfl rfl (any_of HT_.out (by kernel_rfl)) (fun _ _ _ h=>h) (Or.inl ⟨by rfl,?_⟩) ?_ ?_ ?_
             rotate_left;(intro w';go_simp;with_reducible rfl);rotate_left;(simp only [Act.put,zp];rfl)
             refine zq 26 (some 126) ?_ #[O,O,O,O,O,O,O,O,O,O,O,G,G,O,O,O,O,O,O,O,O,G,G,G,O,O,O,G,G,G,G,G,G,G,G,G,G,G,G,G,G,G,G,G,G,G] rfl rfl (any_of HT_.out (by kernel_rfl)) (fun _ _ _ h=>h) (Or.inl ⟨by rfl,?_⟩) ?_ ?_ ?_
             rotate_left;(intro w';go_simp;with_reducible rfl);rotate_left;(simp only [Act.put,zp];rfl)
             refine zq 27 (some 127) ?_ #[O,O,O,O,O,O,O,O,O,O,O,G,G,O,O,O,O,O,O,O,O,G,G,G,O,O,O,O,G,G,G,G,G,G,G,G,G,G,G,G,G,G,G,G,G,G] rfl rfl (any_of HT_.out (by kernel_rfl)) (fun _ _ _ h=>h) (Or.inl ⟨by rfl,?_⟩) ?_ ?_ ?_
             rotate_left;(intro w';go_simp;with_reducible rfl);rotate_left;(simp only [Act.put,zp];rfl)
             refine zq 28 (some 128) ?_ #[O,O,O,O,O,O,O,O,O,O,O,G,G,O,O,O,O,O,O,O,O,G,G,G,O,O,O,O,O,G,G,G,G,G,G,G,G,G,G,G,G,G,G,G,G,G] rfl rfl (any_of HT_.out (by kernel_rfl)) (fun _ _ _ h=>h) (Or.inl ⟨by rfl,?_⟩) ?_ ?_ ?_
             rotate_left;(intro w';go_simp;with_reducible rfl);rotate_left;(simp only [Act.put,zp];rfl)
             refine zq 29 (some 129) ?_ #[O,O,O,O,O,O,O,O,O,O,O,G,G,O,O,O,O,O,O,O,O,G,G,G,O,O,O,O,O,O,G,G,G,G,G,G,G,G,G,G,G,G,G,G,G,G] rfl rfl (any_of HT_.out (by kernel_rfl)) (fun _ _ _ h=>h) (Or.inl ⟨by rfl,?_⟩) ?_ ?_ ?_
             rotate_left;(intro w';go_simp;with_reducible rfl);rotate_left;(simp only [Act.put,zp];rfl)
             refine zq 30 (some 130) ?_ #[O,O,O,O,O,O,O,O,O,O,O,G,G,O,O,O,O,O,O,O,O,G,G,G,O,O,O,O,O,O,O,G,G,G,G,G,G,G,G,G,G,G,G,G,G,G] rfl rfl (any_of HT_.out (by kernel_rfl)) (fun _ _ _ h=>h) (Or.inl ⟨by rfl,?_⟩) ?_ ?_ ?_
             rotate_left;(intro w';go_simp;with_reducible rfl);rotate_left;(simp only [Act.put,zp];rfl)
             refine zq 31 (some 131) ?_ #[O,O,O,O,O,O,O,O,O,O,O,G,G,O,O,O,O,O,O,O,O,G,G,G,O,O,O,O,O,O,O,O,G,G,G,G,G,G,G,G,G,G,G,G,G,G] rfl rfl (any_of HT_.out (by kernel_rfl)) (fun _ _ _ h=>h) (Or.inl ⟨by rfl,?_⟩) ?_ ?_ ?_
             rotate_left;(intro w';go_simp;with_reducible rfl);rotate_left;(simp only [Act.put,zp];rfl)
             refine zq 34 (some 134) ?_ #[O,O,O,O,O,O,O,O,O,O,O,G,G,O,O,O,O,O,O,O,O,G,G,G,O,O,O,O,O,O,O,O,G,G,O,G,G,G,G,G,G,G,G,G,G,G] rfl rfl (any_of HT_.out (by kernel_rfl)) (fun _ _ _ h=>h) (Or.inl ⟨by rfl,?_⟩) ?_ ?_ ?_
             rotate_left;(intro w';go_simp;with_reducible rfl);rotate_left;(simp only [Act.put,zp];rfl)
             refine zq 35 (some 135) ?_ #[O,O,O,O,O,O,O,O,O,O,O,G,G,O,O,O,O,O,O,O,O,G,G,G,O,O,O,O,O,O,O,O,G,G,O,O,G,G,G,G,G,G,G,G,G,G] rfl rfl (any_of HT_.out (by kernel_rfl)) (fun _ _ _ h=>h) (Or.inl ⟨by rfl,?_⟩) ?_ ?_ ?_
             rotate_left;(intro w';go_simp;with_reducible rfl);rotate_left;(simp only [Act.put,zp];rfl)
             refine zq 36 (some 136) ?_ #[O,O,O,O,O,O,O,O,O,O,O,G,G,O,O,O,O,O,O,O,O,G,G,G,O,O,O,O,O,O,O,O,G,G,O,O,O,G,G,G,G,G,G,G,G,G] rfl rfl (any_of HT_.out (by kernel_rfl)) (fun _ _ _ h=>h) (Or.inl ⟨by rfl,?_⟩) ?_ ?_ ?_
             rotate_left;(intro w';go_simp;with_reducible rfl);rotate_left;(simp only [Act.put,zp];rfl)
             refine zq 37 (some 137) ?_ #[O,O,O,O,O,O,O,O,O,O,O,G,G,O,O,O,O,O,O,O,O,G,G,G,O,O,O,O,O,O,O,O,G,G,O,O,O,O,G,G,G,G,G,G,G,G] rfl rfl (any_of HT_.out (by kernel_rfl)) (fun _ _ _ h=>h) (Or.inl ⟨by rfl,?_⟩) ?_ ?_ ?_
             rotate_left;(intro w';go_simp;with_reducible rfl);rotate_left;(simp only [Act.put,zp];rfl)
             refine zq 38 (some 138) ?_ #[O,O,O,O,O,O,O,O,O,O,O,G,G,O,O,O,O,O,O,O,O,G,G,G,O,O,O,O,O,O,O,O,G,G,O,O,O,O,O,G,G,G,G,G,G,G] rfl rfl (any_of HT_.out (by kernel_rfl)) (fun _ _ _ h=>h) (Or.inl ⟨by rfl,?_⟩) ?_ ?_ ?_
             rotate_left;(intro w';go_simp;with_reducible rfl);rotate_left;(simp only [Act.put,zp];rfl)
             refine zq 39 (some 139) ?_ #[O,O,O,O,O,O,O,O,O,O,O,G,G,O,O,O,O,O,O,O,O,G,G,G,O,O,O,O,O,O,O,O,G,G,O,O,O,O,O,O,G,G,G,G,G,G] rfl rfl (any_of HT_.out (by kernel_rfl)) (fun _ _ _ h=>h) (Or.inl ⟨by rfl,?_⟩) ?_ ?_ ?_
             rotate_left;(intro w';go_simp;with_reducible rfl);rotate_left;(simp only [Act.put,zp];rfl)
             refine zq 40 (some 140) ?_ #[O,O,O,O,O,O,O,O,O,O,O,G,G,O,O,O,O,O,O,O,O,G,G,G,O,O,O,O,O,O,O,O,G,G,O,O,O,O,O,O,O,G,G,G,G,G] rfl rfl (any_of HT_.out (by kernel_rfl)) (fun _ _ _ h=>h) (Or.inl ⟨by rfl,?_⟩) ?_ ?_ ?_
             rotate_left;(intro w';go_simp;with_reducible rfl);rotate_left;(simp only [Act.put,zp];rfl)
             refine zq 41 (some 141) ?_ #[O,O,O,O,O,O,O,O,O,O,O,G,G,O,O,O,O,O,O,O,O,G,G,G,O,O,O,O,O,O,O,O,G,G,O,O,O,O,O,O,O,O,G,G,G,G] rfl rfl (any_of HT_.out (by kernel_rfl)) (fun _ _ _ h=>h) (Or.inl ⟨by rfl,?_⟩) ?_ ?_ ?_
             rotate_left;(intro w';go_simp;with_reducible rfl);rotate_left;(simp only [Act.put,zp];rfl)
             refine take_ (i:=11) (N:=some 111) (v:=?_) (a':=?_) #[O,O,O,O,O,O,O,O,O,O,O,O,G,O,O,O,O,O,O,O,O,G,G,G,O,O,O,O,O,O,O,O,G,G,O,O,O,O,O,O,O,O,G,G,G,G] rfl rfl (take_ofW HT_.out HW_.out (by kernel_rfl)) (fun _ _ _ h=>h) (Or.inl ⟨by rfl,?_⟩) hHeld ?_ ?_
             rotate_left
             ·rintro w' ⟨s0,s1,s2,s3⟩
              go_simp
              with_reducible rfl
             rotate_left
             ·simp only [Act.put,zp]
              rfl
             refine take_ (i:=21) (N:=some 121) (v:=?_) (a':=?_) #[O,O,O,O,O,O,O,O,O,O,O,O,G,O,O,O,O,O,O,O,O,O,G,G,O,O,O,O,O,O,O,O,G,G,O,O,O,O,O,O,O,O,G,G,G,G] rfl rfl (take_ofW HT_.out HW_.out (by kernel_rfl)) (fun _ _ _ h=>h) (Or.inl ⟨by rfl,?_⟩) hHeld ?_ ?_
             rotate_left
             ·rintro w' ⟨s0,s1,s2,s3⟩
              go_simp
              with_reducible rfl
             rotate_left
             ·simp only [Act.put,zp]
              rfl
             refine take_ (i:=32) (N:=some 132) (v:=?_) (a':=?_) #[O,O,O,O,O,O,O,O,O,O,O,O,G,O,O,O,O,O,O,O,O,O,G,G,O,O,O,O,O,O,O,O,O,G,O,O,O,O,O,O,O,O,G,G,G,G] rfl rfl (take_ofW HT_.out HW_.out (by kernel_rfl)) (fun _ _ _ h=>h) (Or.inl ⟨by rfl,?_⟩) hHeld ?_ ?_
             rotate_left
             ·rintro w' ⟨s0,s1,s2,s3⟩
              go_simp
              with_reducible rfl
             rotate_left
             ·simp only [Act.put,zp]
              rfl
             refine take_ (i:=42) (N:=some 142) (v:=?_) (a':=?_) #[O,O,O,O,O,O,O,O,O,O,O,O,G,O,O,O,O,O,O,O,O,O,G,G,O,O,O,O,O,O,O,O,O,G,O,O,O,O,O,O,O,O,O,G,G,G] rfl rfl (take_ofW HT_.out HW_.out (by kernel_rfl)) (fun _ _ _ h=>h) (Or.inl ⟨by rfl,?_⟩) hHeld ?_ ?_
             rotate_left
             ·rintro w' ⟨s0,s1,s2,s3⟩
              go_simp
              with_reducible rfl
             rotate_left
             ·simp only [Act.put,zp]
              rfl
             refine one_ (i:=12) (N:=some 112) #[O,O,O,O,O,O,O,O,O,O,O,O,O,O,O,O,O,O,O,O,O,O,G,G,O,O,O,O,O,O,O,O,O,G,O,O,O,O,O,O,O,O,O,G,G,G] rfl rfl (one_of HT_.out (by kernel_rfl)) (by decide) (fun K hK=>?_)
             refine goes_ Tryd.func90 (by kernel_rfl) rfl #[.int .u8 (rd x11_4 (ji45)),.int .u8 2] (by rfl) rfl rfl (by (try simp only [zm]); first|done|(simp only [hji45]; rfl)|rfl|(simp only [zl]; rfl)) ?_
             with_reducible refine (legateref04_Times.calls k6 (rd x11_4 (ji45)) 2 t482 _ A51.out).mono ?_
             rintro e w' ⟨rfl,⟨nd,rfl⟩⟩
             refine ⟨_,rfl,?_⟩
             refine hK.out _ _ ⟨hHeld.1,hHeld.2.1,hHeld.2.2.1,hHeld.2.2.2⟩ (fun hHeld=>?_)
             clear hK K
             refine norm_ (a':=?_) ?_ ?_
             rotate_left
             ·show Act.put _ (some 112) _=_
              simp only [Act.put,zp]
              rfl
             refine one_ (i:=22) (N:=some 122) #[O,O,O,O,O,O,O,O,O,O,O,O,O,O,O,O,O,O,O,O,O,O,O,G,O,O,O,O,O,O,O,O,O,G,O,O,O,O,O,O,O,O,O,G,G,G] rfl rfl (one_of HT_.out (by kernel_rfl)) (by decide) (fun K hK=>?_)
             refine goes_ Tryd.func90 (by kernel_rfl) rfl #[.int .u8 (rd x11_4 (ji52)),.int .u8 3] (by rfl) rfl rfl (by (try simp only [zm]); first|done|(simp only [hji52]; rfl)|rfl|(simp only [zl]; rfl)) ?_
             with_reducible refine (legateref04_Times.calls k6 (rd x11_4 (ji52)) 3 t484 _ A55.out).mono ?_
             rintro e w' ⟨rfl,⟨nd,rfl⟩⟩
             refine ⟨_,rfl,?_⟩
             have p62:0≤((ji45):Int):=of_decide_eq_true (by first|(with_reducible assumption)|assumption)
             have q62:((ji45):Int)<((x14_6.length:Int):Int):=of_decide_eq_true (by first|(with_reducible assumption)|assumption)
             obtain ⟨hx62_0,hf62_0⟩:=Kd.R_celln 0 HO_14.out ((ji45):Int) p62 q62
             replace p62:=eq_true p62
             replace q62:=eq_true q62
             have HP67:=Kd.R_putn HO_14.out ((ji45):Int) (Go.bits .xor .u8 (Go.bits .xor .u8 (Go.bits .xor .u8 t482 t484) (rd x11_4 (ji56))) (rd x11_4 (ji59)))
             rw [← Ny487.out] at HP67
             have HQ67:=zK HP67
             clear HP67
             refine hK.out _ _ ⟨hHeld.1,hHeld.2.1,hHeld.2.2.1,hHeld.2.2.2⟩ (fun hHeld=>?_)
             clear hK K
             refine norm_ (a':=?_) ?_ ?_
             rotate_left
             ·show Act.put _ (some 122) _=_
              simp only [Act.put,zp]
              rfl
             refine zq 23 (some 123) ?_ #[O,O,O,O,O,O,O,O,O,O,O,O,O,O,O,O,O,O,O,O,O,O,O,O,O,O,O,O,O,O,O,O,O,G,O,O,O,O,O,O,O,O,O,G,G,G] rfl rfl (any_of HT_.out (by kernel_rfl)) (fun _ _ _ h=>h) (Or.inl ⟨by rfl,?_⟩) ?_ ?_ ?_
             rotate_left;(intro w';go_simp;with_reducible rfl);rotate_left;(simp only [Act.put,zp];rfl)
             refine zq 33 (some 133) ?_ #[O,O,O,O,O,O,O,O,O,O,O,O,O,O,O,O,O,O,O,O,O,O,O,O,O,O,O,O,O,O,O,O,O,O,O,O,O,O,O,O,O,O,O,G,G,G] rfl rfl (any_of HT_.out (by kernel_rfl)) (fun _ _ _ h=>h) (Or.inl ⟨by rfl,?_⟩) ?_ ?_ ?_
             rotate_left;(intro w';go_simp;with_reducible rfl);rotate_left;(simp only [Act.put,zp];rfl)
             refine zq 43 (some 143) ?_ #[O,O,O,O,O,O,O,O,O,O,O,O,O,O,O,O,O,O,O,O,O,O,O,O,O,O,O,O,O,O,O,O,O,O,O,O,O,O,O,O,O,O,O,O,G,G] rfl rfl (any_of HT_.out (by kernel_rfl)) (fun _ _ _ h=>h) (Or.inl ⟨by rfl,?_⟩) ?_ ?_ ?_
             rotate_left;(intro w';go_simp;with_reducible rfl);rotate_left;(simp only [Act.put,zp];rfl)
             refine zq 44 (some 144) ?_ #[O,O,O,O,O,O,O,O,O,O,O,O,O,O,O,O,O,O,O,O,O,O,O,O,O,O,O,O,O,O,O,O,O,O,O,O,O,O,O,O,O,O,O,O,O,G] rfl rfl (any_of HT_.out (by kernel_rfl)) (fun _ _ _ h=>h) (Or.inl ⟨by rfl,?_⟩) ?_ ?_ ?_
             rotate_left;(intro w';go_simp;with_reducible rfl);rotate_left;(simp only [Act.put,zp];rfl)
             refine last_ (i:=45) (N:=none) #[O,O,O,O,O,O,O,O,O,O,O,O,O,O,O,O,O,O,O,O,O,O,O,O,O,O,O,O,O,O,O,O,O,O,O,O,O,O,O,O,O,O,O,O,O,O] rfl rfl (one_of HT_.out (by kernel_rfl)) (by decide) (fun K hK=>?_)
             refine skip_ (w1:=?_) (by rfl) rfl ?_ ?_
             rotate_left
             ·go_simp
              rfl
             refine hK.out _ _ ?_
             clear hK K
             refine done_ (done_of HT_.out (by kernel_rfl)) ?_
             try go_wp2
             go_roundg k6
             case measure=>have:=HJ3.out; have:=HK2.out; have:=HK3.out; have:=HK4.out; have:=HK5.out; have:=HK6.out; omega
             case rel=>exact ⟨(y487),(wrap64 (x16_6+1)),(by first|rfl|(simp; done)|(simp [*]; done)),H',⟨by have:=HJ3.out; have:=HK2.out; have:=HK3.out; have:=HK4.out; have:=HK5.out; have:=HK6.out; omega⟩,⟨by (with_reducible repeat (first|apply Kd.R_alloc|apply Kd.R_drewN|apply Kd.R_drew)); exact Kd.R_mono (Kd.R_far (p:=⟨go49,((ji45):Int).toNat,none⟩) (Kd.R_mono HO_8.out (fun k_ hk=>(⟨hk,fun e_=>hk.2 (by rw [e_]; rfl)⟩:_∧k_≠go49))) (fun _ hk=>hk.2) (.int .u8 (Go.bits .xor .u8 (Go.bits .xor .u8 (Go.bits .xor .u8 t482 t484) (rd x11_4 (ji56))) (rd x11_4 (ji59))))) (fun _ hk=>⟨hk.1.1,hk.1.2⟩)⟩,⟨by (with_reducible repeat (first|apply Kd.R_alloc|apply Kd.R_drewN|apply Kd.R_drew)); exact Kd.R_mono (Kd.R_far (p:=⟨go49,((ji45):Int).toNat,none⟩) (Kd.R_mono HO_11.out (fun k_ hk=>(⟨hk,fun e_=>hk.2 (by rw [e_]; rfl)⟩:_∧k_≠go49))) (fun _ hk=>hk.2) (.int .u8 (Go.bits .xor .u8 (Go.bits .xor .u8 (Go.bits .xor .u8 t482 t484) (rd x11_4 (ji56))) (rd x11_4 (ji59))))) (fun _ hk=>⟨hk.1.1,hk.1.2⟩)⟩,⟨by (with_reducible repeat (first|apply Kd.R_alloc|apply Kd.R_drewN|apply Kd.R_drew)); exact HQ67.out⟩,⟨by repeat (first|(with_reducible first|exact HB.out|apply zA|apply zN|apply zD|refine below_set ?_ GB49.out)|exact HB.out)⟩⟩
end Go.Proofs.YtkgijkfcmbpgpaaDoor.PAll
end
