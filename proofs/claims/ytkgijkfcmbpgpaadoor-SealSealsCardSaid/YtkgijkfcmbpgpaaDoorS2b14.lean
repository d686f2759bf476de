import Derived.Test.YtkgijkfcmbpgpaaDoorS2b0
import Derived.Test.YtkgijkfcmbpgpaaDoorS2b1
import Derived.Test.YtkgijkfcmbpgpaaDoorS2b12
import Derived.Test.YtkgijkfcmbpgpaaDoorS2b13
import Derived.Test.YtkgijkfcmbpgpaaDoorS2b2
section
namespace Go.Proofs.YtkgijkfcmbpgpaaDoor.PAll
open Go.RowKit Go.Proofs.YtkgijkfcmbpgpaaDoorW.PrintWords Go.Proofs.YtkgijkfcmbpgpaaDoorW.PrintLast Go.Proofs.YtkgijkfcmbpgpaaDoorW.PrintMore
open Go.Proofs.YtkgijkfcmbpgpaaDoor.Giv
attribute [local go_sem] max2_int min2_int max_two min_two max_three min_three max_four min_four
set_option linter.unusedVariables false
set_option linter.unusedSimpArgs false
mutual
def legateref02_Block.j0:Nat→List Int→ByteArray→ByteArray→Bool→Option (ByteArray)
  | 0,_,_,_,_=>none
  | k+1,x0,x1,x2,x30=>if x30=true then (some (⟨#[]⟩:ByteArray)) else ((legateref02_words.f k x2).bind fun t169=>(legateref02_Block.l0 k x0 x1 t169 16))
def legateref02_Block.l0:Nat→List Int→ByteArray→List Int→Int→Option (ByteArray)
  | 0,_,_,_,_=>none
  | k+1,x0,x1,x7,x8=>if x8<64 then (if 0≤(wrap64 (x8 - 15)) then (if (wrap64 (x8 - 15))<(x7.length:Int) then (if 0≤(wrap64 (x8 - 2)) then (if (wrap64 (x8 - 2))<(x7.length:Int) then ((legateref02_turn.f (rd x7 (wrap64 (x8 - 15))) 7).bind fun t174=>((legateref02_turn.f (rd x7 (wrap64 (x8 - 15))) 18).bind fun t175=>((legateref02_turn.f (rd x7 (wrap64 (x8 - 2))) 17).bind fun t176=>((legateref02_turn.f (rd x7 (wrap64 (x8 - 2))) 19).bind fun t177=>(if 0≤(wrap64 (x8 - 7)) then (if (wrap64 (x8 - 7))<(x7.length:Int) then (if 0≤(wrap64 (x8 - 16)) then (if (wrap64 (x8 - 16))<(x7.length:Int) then (if x7.length<17592186044416 then (legateref02_Block.l0 k x0 x1 (x7++[Int.tmod (wrap64 ((wrap64 ((wrap64 ((Go.bits .xor .i64 (Go.bits .xor .i64 t176 t177) (wrap64 (Int.tdiv (rd x7 (wrap64 (x8 - 2))) 1024)))+(rd x7 (wrap64 (x8 - 7)))))+(Go.bits .xor .i64 (Go.bits .xor .i64 t174 t175) (wrap64 (Int.tdiv (rd x7 (wrap64 (x8 - 15))) 8)))))+(rd x7 (wrap64 (x8 - 16))))) 4294967296]) (wrap64 (x8+1))) else (none)) else (none)) else (none)) else (none)) else (none)))))) else (none)) else (none)) else (none)) else (none)) else ((legateref02_words.f k x1).bind fun t183=>((legateref02_words.f k x1).bind fun t186=>(legateref02_Block.l1 k x0 x7 t183 t186 0)))
def legateref02_Block.l1:Nat→List Int→List Int→List Int→List Int→Int→Option (ByteArray)
  | 0,_,_,_,_,_=>none
  | k+1,x0,x7,x13,x14,x15=>if x15<64 then (if 4<(x14.length:Int) then (if 0<(x14.length:Int) then (if 5<(x14.length:Int) then (if 6<(x14.length:Int) then (if 1<(x14.length:Int) then (if 2<(x14.length:Int) then (if 7<(x14.length:Int) then ((legateref02_turn.f (rd x14 4) 6).bind fun t198=>((legateref02_turn.f (rd x14 4) 11).bind fun t199=>((legateref02_turn.f (rd x14 4) 25).bind fun t200=>(if 0≤x15 then (if x15<(x0.length:Int) then (if x15<(x7.length:Int) then ((legateref02_turn.f (rd x14 0) 2).bind fun t203=>((legateref02_turn.f (rd x14 0) 13).bind fun t204=>((legateref02_turn.f (rd x14 0) 22).bind fun t205=>(if 3<(x14.length:Int) then (legateref02_Block.l1 k x0 x7 x13 (([Int.tmod (wrap64 ((Int.tmod (wrap64 ((wrap64 ((wrap64 ((wrap64 ((rd x14 7)+(Go.bits .xor .i64 (Go.bits .xor .i64 t198 t199) t200)))+(Go.bits .xor .i64 (Go.bits .and .i64 (rd x14 4) (rd x14 5)) (Go.bits .and .i64 (wrap64 (4294967295 - (rd x14 4))) (rd x14 6)))))+(rd x0 x15)))+(rd x7 x15))) 4294967296)+(Int.tmod (wrap64 ((Go.bits .xor .i64 (Go.bits .xor .i64 t203 t204) t205)+(Go.bits .xor .i64 (Go.bits .xor .i64 (Go.bits .and .i64 (rd x14 0) (rd x14 1)) (Go.bits .and .i64 (rd x14 0) (rd x14 2))) (Go.bits .and .i64 (rd x14 1) (rd x14 2))))) 4294967296))) 4294967296,rd x14 0,rd x14 1,rd x14 2,Int.tmod (wrap64 ((rd x14 3)+(Int.tmod (wrap64 ((wrap64 ((wrap64 ((wrap64 ((rd x14 7)+(Go.bits .xor .i64 (Go.bits .xor .i64 t198 t199) t200)))+(Go.bits .xor .i64 (Go.bits .and .i64 (rd x14 4) (rd x14 5)) (Go.bits .and .i64 (wrap64 (4294967295 - (rd x14 4))) (rd x14 6)))))+(rd x0 x15)))+(rd x7 x15))) 4294967296))) 4294967296,rd x14 4,rd x14 5,rd x14 6]:List Int)) (wrap64 (x15+1))) else (none))))) else (none)) else (none)) else (none))))) else (none)) else (none)) else (none)) else (none)) else (none)) else (none)) else (none)) else (legateref02_Block.l2 k x13 x14 0)
def legateref02_Block.l2:Nat→List Int→List Int→Int→Option (ByteArray)
  | 0,_,_,_=>none
  | k+1,x13,x14,x22=>if x22<8 then (if 0≤x22 then (if x22<(x14.length:Int) then (if x22<(x13.length:Int) then (legateref02_Block.l2 k x13 (x14.set (x22:Int).toNat (Int.tmod (wrap64 ((rd x14 x22)+(rd x13 x22))) 4294967296)) (wrap64 (x22+1))) else (none)) else (none)) else (none)) else ((legateref02_bytes.f k x14).bind fun t219=>(some t219))
end
def legateref02_Block.f (k:Nat) (l0:List Int) (a1:ByteArray) (a2:ByteArray):Option (ByteArray):=if (a1.size:Int)=32 then (legateref02_Block.j0 k l0 a1 a2 ((a2.size:Int) != 64)) else (legateref02_Block.j0 k l0 a1 a2 true)
def legateref02_Block.T11:Bool×List (List Nat×List Nat):=(true,[([],[]),([],[]),([],[]),([],[]),([3],[3]),([2,4],[2,4]),([5],[5]),([1,6],[1,6]),([],[]),([7,8],[7,8]),([],[]),([],[]),([11],[11]),([10,12],[10,12]),([13],[13]),([9,14],[9,14]),([15],[15]),([16],[16]),([0,17],[0,17]),([18,18,0,1,2,3,4,5,6,7,8,9,10,11,12,13,14,15,16,17,18],[0,2,10,18])])
def legateref02_Block.B11:List Nat:=[0,0,0,0,8,28,60,126,0,510,0,0,2048,7168,15360,32766,65534,131070,262143,524287]
theorem legateref02_Block.tab11:rtab .any (opsOf Tryd.f23 11)=legateref02_Block.T11:=by kernel_rfl
theorem legateref02_Block.bits11:waitsOk legateref02_Block.T11.2 legateref02_Block.B11=true:=by kernel_rfl
def legateref02_Block.T19:Bool×List (List Nat×List Nat):=(true,[([],[]),([],[]),([1],[1]),([2],[2]),([0,3],[0,3]),([],[]),([5],[5]),([],[]),([7],[7]),([8],[8]),([6,9],[6,9]),([4,10],[4,10]),([11,0,1,2,3,4,5,6,7,8,9,10,11],[11])])
def legateref02_Block.B19:List Nat:=[0,0,2,6,15,0,32,0,128,384,992,2047,4095]
theorem legateref02_Block.tab19:rtab .any (opsOf Tryd.f23 19)=legateref02_Block.T19:=by kernel_rfl
theorem legateref02_Block.bits19:waitsOk legateref02_Block.T19.2 legateref02_Block.B19=true:=by kernel_rfl
def legateref02_Block.T20:Bool×List (List Nat×List Nat):=(true,[([],[]),([],[]),([1],[1]),([2],[2]),([0,3],[0,3]),([],[]),([],[]),([6],[6]),([7],[7]),([5,8],[5,8]),([4,9],[4,9]),([],[]),([11],[11]),([12],[12]),([],[]),([14],[14]),([15],[15]),([13,16],[13,16]),([10,17],[10,17]),([18,0,1,2,3,4,5,6,7,8,9,10,11,12,13,14,15,16,17,18],[18])])
def legateref02_Block.B20:List Nat:=[0,0,2,6,15,0,0,64,192,480,1023,0,2048,6144,0,16384,49152,129024,262143,524287]
theorem legateref02_Block.tab20:rtab .any (opsOf Tryd.f23 20)=legateref02_Block.T20:=by kernel_rfl
theorem legateref02_Block.bits20:waitsOk legateref02_Block.T20.2 legateref02_Block.B20=true:=by kernel_rfl
def legateref02_Block.T21:Bool×List (List Nat×List Nat):=(true,[([],[]),([0],[0]),([1],[1]),([],[]),([3],[3]),([],[]),([5,4],[5]),([4,6],[4,6]),([],[]),([8,6],[8]),([7,9],[7,9]),([2,10],[2,10]),([],[]),([11,12],[11,12]),([],[]),([],[]),([14,15],[14,15]),([16],[16]),([13,17],[13,17]),([],[]),([],[]),([19,20],[19,20]),([21],[21]),([18,22],[18,22]),([23],[23]),([24,9,0,1,2,3,4,5,6,7,8,9,10,11,12,13,14,15,16,17,18,19,20,21,22,23,24],[24])])
def legateref02_Block.B21:List Nat:=[0,1,3,0,8,0,56,120,0,376,1016,2047,0,8191,0,0,49152,114688,262143,0,0,1572864,3670016,8388607,16777215,33554431]
theorem legateref02_Block.tab21:rtab .any (opsOf Tryd.f23 21)=legateref02_Block.T21:=by kernel_rfl
theorem legateref02_Block.bits21:waitsOk legateref02_Block.T21.2 legateref02_Block.B21=true:=by kernel_rfl
def legateref02_Block.T23:Bool×List (List Nat×List Nat):=(true,[([],[]),([],[]),([0,1],[0,1]),([2],[2]),([],[]),([4],[4]),([5],[5]),([],[]),([7],[7]),([8],[8]),([],[]),([10],[10]),([11],[11]),([],[]),([13],[13]),([14],[14]),([],[]),([15,16],[15,16]),([17],[17]),([],[]),([19],[19]),([20],[20]),([],[]),([22],[22]),([23],[23]),([],[]),([25],[25]),([26],[26]),([3,6,9,12,18,21,24,27],[3,6,9,12,18,21,24,27]),([28,0,1,2,3,4,5,6,7,8,9,10,11,12,13,14,15,16,17,18,19,20,21,22,23,24,25,26,27,28],[4,7,10,13,19,22,25,28])])
def legateref02_Block.B23:List Nat:=[0,0,3,7,0,16,48,0,128,384,0,1024,3072,0,8192,24576,0,122880,253952,0,524288,1572864,0,4194304,12582912,0,33554432,100663296,268435455,536870911]
theorem legateref02_Block.tab23:rtab .any (opsOf Tryd.f23 23)=legateref02_Block.T23:=by kernel_rfl
theorem legateref02_Block.bits23:waitsOk legateref02_Block.T23.2 legateref02_Block.B23=true:=by kernel_rfl
def legateref02_Block.T27:Bool×List (List Nat×List Nat):=(true,[([],[]),([],[]),([],[]),([],[]),([2,3],[2,3]),([4],[4]),([],[]),([],[]),([6,7],[6,7]),([8],[8]),([5,9],[5,9]),([10],[10]),([0,1,0,1,2,3,4,5,6,7,8,9,10,11],[0,1]),([12,11,0,1,2,3,4,5,6,7,8,9,10,11],[11,12])])
def legateref02_Block.B27:List Nat:=[0,0,0,0,12,28,0,0,192,448,1020,2044,4095,8191]
theorem legateref02_Block.tab27:rtab .any (opsOf Tryd.f23 27)=legateref02_Block.T27:=by kernel_rfl
theorem legateref02_Block.bits27:waitsOk legateref02_Block.T27.2 legateref02_Block.B27=true:=by kernel_rfl
set_option maxHeartbeats 8000000 in
set_option maxRecDepth 100000 in
theorem legateref02_Block.calls (k:Nat) (A0:Option Addr) (c0:Nat) (l0:List Int) (a1:ByteArray) (a2:ByteArray) (r:ByteArray) (w:World) (hr0:Kd.C (Kd.int .i64) w A0 l0.length l0) (hc0:l0.length≤c0) (h:legateref02_Block.f k l0 a1 a2=some r) :
 Calls Tryd.prog 23 #[.slice A0 l0.length c0,.string a1,.string a2] w fun e w'=>e=.returned (.string r)∧Below w.heap.size w w':=by
 have HR0:=zK hr0
 have HC0:=zK hc0
 clear hr0 hc0
 have HB:=zK (Below.refl w.heap.size w)
 have H:(if (a1.size:Int)=32 then (legateref02_Block.j0 k l0 a1 a2 ((a2.size:Int) != 64)) else (legateref02_Block.j0 k l0 a1 a2 true))=some r:=h
 clear h
 have HC4:=zK H
 clear H
 go_enter Tryd.func23,Tryd.ntmps23
 go_upto_region 1 with (fail)
 go_cut [30] (fun v30 wc=>∃ (kq:Nat) (x30_3:Bool),v30=.bool x30_3∧Aside0 (legateref02_Block.j0 kq l0 a1 a2 x30_3=some r)∧Aside0 (kq≤k)∧Aside0 (Below w.heap.size w wc))
 case first =>
  have H:=HC4.out
  clear HC4
  by_cases c5:(a1.size:Int)=32
  case neg =>
   rw [if_neg c5] at H
   have c5b0:((a1.size:Int) == 32)=false:=beq_eq_false_iff_ne.mpr c5
   have c5b1:((a1.size:Int) != 32)=true:=bne_iff_ne.mpr c5
   (first|rw [c5b0]|(simp only [i64_w,i32_w]; rw [c5b0])|skip)
   have H':=zK H
   clear H
   go_wp2
   go_meet
   case rel=>exact ⟨_,(true),(by first|rfl|(simp; done)|(simp [*]; done)),H',⟨by first|omega|exact Nat.le_refl _⟩,⟨by repeat (first|(with_reducible first|exact HB.out|apply zA|apply zN|apply zD)|exact HB.out)⟩⟩
  rw [if_pos c5] at H
  have c5b0:((a1.size:Int) == 32)=true:=beq_iff_eq.mpr c5
  have c5b1:((a1.size:Int) != 32)=false:=bne_eq_false_iff_eq.mpr c5
  clear c5
  (first|rw [c5b0]|(simp only [i64_w,i32_w]; rw [c5b0])|skip)
  have H':=zK H
  clear H
  go_wp2
  go_meet
  case rel=>exact ⟨_,(((a2.size:Int) != 64)),(by first|rfl|(simp; done)|(simp [*]; done)),H',⟨by first|omega|exact Nat.le_refl _⟩,⟨by repeat (first|(with_reducible first|exact HB.out|apply zA|apply zN|apply zD)|exact HB.out)⟩⟩
 case rest =>
  clear HC4
  try clear c2
  try clear p2
  try clear c5
  try clear c5b0
  try clear c5b1
  obtain ⟨kq,x30_3,rfl,HA,HJ3,HB⟩:=hcut
  cases kq with
  | zero=>exact absurd HA.out (by simp [legateref02_Block.j0])
  | succ kj3 =>
   have H:=HA.out
   clear HA
   simp only [legateref02_Block.j0] at H
   by_cases c6:x30_3=true
   case pos =>
    subst c6
    have H1:(some (⟨#[]⟩:ByteArray))=some r:=by rw [if_pos rfl] at H; exact H
    clear H
    have H:=H1
    clear H1
    obtain rfl:=Option.some.inj H
    go_wp2
    go_ret
    exact ⟨by first|rfl|(simp [errW_none,errW_some]<;>rfl)|(simp [*,errW_none,errW_some]<;>rfl),by repeat (first|(with_reducible first|exact HB.out|apply zA|apply zN|apply zD)|exact HB.out)⟩
   replace c6:=Bool.eq_false_iff.mpr c6
   subst c6
   have H1:((legateref02_words.f kj3 a2).bind fun t169=>(legateref02_Block.l0 kj3 l0 a1 t169 16))=some r:=by rw [if_neg (show ¬ (false=true) by decide)] at H; exact H
   clear H
   have H:=H1
   clear H1
   replace H:=Option.bind_eq_some_iff.mp H
   obtain ⟨t169,A70,H⟩:=H
   replace H:(legateref02_Block.l0 kj3 l0 a1 t169 16)=some r:=H
   have A7:=zK A70
   clear A70
   have H':=zK H
   clear H
   go_wp2_with (first|((with_reducible refine gate_callee (f:=60) rfl ?_); refine goesL_ (some 32) rfl rfl Tryd.func60 (by kernel_rfl) rfl #[.string a2] rfl (by (try simp only [zm]); first|done|rfl|(simp only [zl]; rfl)) ?_; (with_reducible refine (legateref02_words.calls kj3 a2 t169 _ A7.out).mono ?_); rintro e w8 ⟨v170,rfl,ho0,hb⟩; refine ⟨_,rfl,?_⟩; have n0_:=zK (Kd.R_lower ho0 (below_size (by repeat (first|(with_reducible first|exact HB.out|apply zA|apply zN|apply zD)|exact HB.out)))); have n1_:=zK (below_step (by repeat (first|(with_reducible first|exact HB.out|apply zA|apply zN|apply zD)|exact HB.out)) hb); clear HB; have HO171:=n0_; have HB:=n1_; clear n0_ n1_; (try clear hb); (try clear hb2); (try clear hk); (try clear hi); (try clear ho0)))
   go_loopg [7,8] kj3 (fun kq v7 v8 w'=>∃ (x7_2:List Int) (x8_2:Int),v8=.int .i64 x8_2∧Aside0 (legateref02_Block.l0 kq l0 a1 x7_2 x8_2=some r)∧Aside0 (kq≤kj3)∧Aside0 (Kd.R (Kd.int .i64) 3 w' w.heap.size (fun _=>True) v7 x7_2)∧Aside0 (Below w.heap.size w w'))
   case atStart=>exact ⟨(t169),(16),(by first|rfl|(simp; done)|(simp [*]; done)),H',⟨Nat.le_refl _⟩,⟨by (with_reducible repeat (first|apply Kd.R_alloc|apply Kd.R_drewN|apply Kd.R_drew)); exact HO171.out⟩,⟨by repeat (first|(with_reducible first|exact HB.out|apply zA|apply zN|apply zD)|exact HB.out)⟩⟩
   case round =>
    clear H'
    try clear c2
    try clear p2
    try clear c5
    try clear c5b0
    try clear c5b1
    try clear c6
    try clear p2
    obtain ⟨x7_2,x8_2,rfl,HA,HK2,HO_7,HB⟩:=hrel
    cases gk with
    | zero=>exact absurd HA.out (by simp [legateref02_Block.l0])
    | succ k2 =>
     have H:=HA.out
     clear HA
     simp only [legateref02_Block.l0] at H
     by_cases c9:x8_2<64
     case pos =>
      rw [if_pos c9] at H
      have c9b0:decide (x8_2<64)=true:=decide_eq_true c9
      clear c9
      obtain ⟨ji10,hji10⟩:∃ j_:Int,(wrap64 (x8_2 - 15))=j_:=⟨_,rfl⟩
      replace H:(if 0≤(ji10) then (if (ji10)<(x7_2.length:Int) then (if 0≤(wrap64 (x8_2 - 2)) then (if (wrap64 (x8_2 - 2))<(x7_2.length:Int) then ((legateref02_turn.f (rd x7_2 (ji10)) 7).bind fun t174=>((legateref02_turn.f (rd x7_2 (ji10)) 18).bind fun t175=>((legateref02_turn.f (rd x7_2 (wrap64 (x8_2 - 2))) 17).bind fun t176=>((legateref02_turn.f (rd x7_2 (wrap64 (x8_2 - 2))) 19).bind fun t177=>(if 0≤(wrap64 (x8_2 - 7)) then (if (wrap64 (x8_2 - 7))<(x7_2.length:Int) then (if 0≤(wrap64 (x8_2 - 16)) then (if (wrap64 (x8_2 - 16))<(x7_2.length:Int) then (if x7_2.length<17592186044416 then (legateref02_Block.l0 k2 l0 a1 (x7_2++[Int.tmod (wrap64 ((wrap64 ((wrap64 ((Go.bits .xor .i64 (Go.bits .xor .i64 t176 t177) (wrap64 (Int.tdiv (rd x7_2 (wrap64 (x8_2 - 2))) 1024)))+(rd x7_2 (wrap64 (x8_2 - 7)))))+(Go.bits .xor .i64 (Go.bits .xor .i64 t174 t175) (wrap64 (Int.tdiv (rd x7_2 (ji10)) 8)))))+(rd x7_2 (wrap64 (x8_2 - 16))))) 4294967296]) (wrap64 (x8_2+1))) else (none)) else (none)) else (none)) else (none)) else (none)))))) else (none)) else (none)) else (none)) else (none))=some r:=by first|(rw [hji10] at H; exact H)|(simp only [hji10] at H ⊢; exact H)
      have hji10w:(IntKind.i64.wrap (x8_2 - 15))=ji10:=(i64_w _).trans hji10
      by_cases c11:0≤(ji10)
      case neg =>
       rw [if_neg c11] at H
       exact absurd H (by simp)
      rw [if_pos c11] at H
      have c11b0:decide (0≤(ji10))=true:=decide_eq_true c11
      have c11b0z:=c11b0
      (try simp only [ByteArray.size_append,Int.natCast_add] at c11b0z)
      clear c11
      by_cases c12:(ji10)<(x7_2.length:Int)
      case neg =>
       rw [if_neg c12] at H
       exact absurd H (by simp)
      rw [if_pos c12] at H
      have c12b0:decide ((ji10)<(x7_2.length:Int))=true:=decide_eq_true c12
      clear c12
      obtain ⟨ji13,hji13⟩:∃ j_:Int,(wrap64 (x8_2 - 2))=j_:=⟨_,rfl⟩
      replace H:(if 0≤(ji13) then (if (ji13)<(x7_2.length:Int) then ((legateref02_turn.f (rd x7_2 (ji10)) 7).bind fun t174=>((legateref02_turn.f (rd x7_2 (ji10)) 18).bind fun t175=>((legateref02_turn.f (rd x7_2 (ji13)) 17).bind fun t176=>((legateref02_turn.f (rd x7_2 (ji13)) 19).bind fun t177=>(if 0≤(wrap64 (x8_2 - 7)) then (if (wrap64 (x8_2 - 7))<(x7_2.length:Int) then (if 0≤(wrap64 (x8_2 - 16)) then (if (wrap64 (x8_2 - 16))<(x7_2.length:Int) then (if x7_2.length<17592186044416 then (legateref02_Block.l0 k2 l0 a1 (x7_2++[Int.tmod (wrap64 ((wrap64 ((wrap64 ((Go.bits .xor .i64 (Go.bits .xor .i64 t176 t177) (wrap64 (Int.tdiv (rd x7_2 (ji13)) 1024)))+(rd x7_2 (wrap64 (x8_2 - 7)))))+(Go.bits .xor .i64 (Go.bits .xor .i64 t174 t175) (wrap64 (Int.tdiv (rd x7_2 (ji10)) 8)))))+(rd x7_2 (wrap64 (x8_2 - 16))))) 4294967296]) (wrap64 (x8_2+1))) else (none)) else (none)) else (none)) else (none)) else (none)))))) else (none)) else (none))=some r:=by first|(rw [hji13] at H; exact H)|(simp only [hji13] at H ⊢; exact H)
      have hji13w:(IntKind.i64.wrap (x8_2 - 2))=ji13:=(i64_w _).trans hji13
      by_cases c14:0≤(ji13)
      case neg =>
       rw [if_neg c14] at H
       exact absurd H (by simp)
      rw [if_pos c14] at H
      have c14b0:decide (0≤(ji13))=true:=decide_eq_true c14
      have c14b0z:=c14b0
      (try simp only [ByteArray.size_append,Int.natCast_add] at c14b0z)
      clear c14
      by_cases c15:(ji13)<(x7_2.length:Int)
      case neg =>
       rw [if_neg c15] at H
       exact absurd H (by simp)
      rw [if_pos c15] at H
      have c15b0:decide ((ji13)<(x7_2.length:Int))=true:=decide_eq_true c15
      clear c15
      replace H:=Option.bind_eq_some_iff.mp H
      obtain ⟨t174,A160,H⟩:=H
      replace H:((legateref02_turn.f (rd x7_2 (ji10)) 18).bind fun t175=>((legateref02_turn.f (rd x7_2 (ji13)) 17).bind fun t176=>((legateref02_turn.f (rd x7_2 (ji13)) 19).bind fun t177=>(if 0≤(wrap64 (x8_2 - 7)) then (if (wrap64 (x8_2 - 7))<(x7_2.length:Int) then (if 0≤(wrap64 (x8_2 - 16)) then (if (wrap64 (x8_2 - 16))<(x7_2.length:Int) then (if x7_2.length<17592186044416 then (legateref02_Block.l0 k2 l0 a1 (x7_2++[Int.tmod (wrap64 ((wrap64 ((wrap64 ((Go.bits .xor .i64 (Go.bits .xor .i64 t176 t177) (wrap64 (Int.tdiv (rd x7_2 (ji13)) 1024)))+(rd x7_2 (wrap64 (x8_2 - 7)))))+(Go.bits .xor .i64 (Go.bits .xor .i64 t174 t175) (wrap64 (Int.tdiv (rd x7_2 (ji10)) 8)))))+(rd x7_2 (wrap64 (x8_2 - 16))))) 4294967296]) (wrap64 (x8_2+1))) else (none)) else (none)) else (none)) else (none)) else (none)))))=some r:=H
      have A16:=zK A160
      clear A160
      replace H:=Option.bind_eq_some_iff.mp H
      obtain ⟨t175,A170,H⟩:=H
      replace H:((legateref02_turn.f (rd x7_2 (ji13)) 17).bind fun t176=>((legateref02_turn.f (rd x7_2 (ji13)) 19).bind fun t177=>(if 0≤(wrap64 (x8_2 - 7)) then (if (wrap64 (x8_2 - 7))<(x7_2.length:Int) then (if 0≤(wrap64 (x8_2 - 16)) then (if (wrap64 (x8_2 - 16))<(x7_2.length:Int) then (if x7_2.length<17592186044416 then (legateref02_Block.l0 k2 l0 a1 (x7_2++[Int.tmod (wrap64 ((wrap64 ((wrap64 ((Go.bits .xor .i64 (Go.bits .xor .i64 t176 t177) (wrap64 (Int.tdiv (rd x7_2 (ji13)) 1024)))+(rd x7_2 (wrap64 (x8_2 - 7)))))+(Go.bits .xor .i64 (Go.bits .xor .i64 t174 t175) (wrap64 (Int.tdiv (rd x7_2 (ji10)) 8)))))+(rd x7_2 (wrap64 (x8_2 - 16))))) 4294967296]) (wrap64 (x8_2+1))) else (none)) else (none)) else (none)) else (none)) else (none))))=some r:=H
      have A17:=zK A170
      clear A170
      replace H:=Option.bind_eq_some_iff.mp H
      obtain ⟨t176,A180,H⟩:=H
      replace H:((legateref02_turn.f (rd x7_2 (ji13)) 19).bind fun t177=>(if 0≤(wrap64 (x8_2 - 7)) then (if (wrap64 (x8_2 - 7))<(x7_2.length:Int) then (if 0≤(wrap64 (x8_2 - 16)) then (if (wrap64 (x8_2 - 16))<(x7_2.length:Int) then (if x7_2.length<17592186044416 then (legateref02_Block.l0 k2 l0 a1 (x7_2++[Int.tmod (wrap64 ((wrap64 ((wrap64 ((Go.bits .xor .i64 (Go.bits .xor .i64 t176 t177) (wrap64 (Int.tdiv (rd x7_2 (ji13)) 1024)))+(rd x7_2 (wrap64 (x8_2 - 7)))))+(Go.bits .xor .i64 (Go.bits .xor .i64 t174 t175) (wrap64 (Int.tdiv (rd x7_2 (ji10)) 8)))))+(rd x7_2 (wrap64 (x8_2 - 16))))) 4294967296]) (wrap64 (x8_2+1))) else (none)) else (none)) else (none)) else (none)) else (none)))=some r:=H
      have A18:=zK A180
      clear A180
      replace H:=Option.bind_eq_some_iff.mp H
      obtain ⟨t177,A190,H⟩:=H
      replace H:(if 0≤(wrap64 (x8_2 - 7)) then (if (wrap64 (x8_2 - 7))<(x7_2.length:Int) then (if 0≤(wrap64 (x8_2 - 16)) then (if (wrap64 (x8_2 - 16))<(x7_2.length:Int) then (if x7_2.length<17592186044416 then (legateref02_Block.l0 k2 l0 a1 (x7_2++[Int.tmod (wrap64 ((wrap64 ((wrap64 ((Go.bits .xor .i64 (Go.bits .xor .i64 t176 t177) (wrap64 (Int.tdiv (rd x7_2 (ji13)) 1024)))+(rd x7_2 (wrap64 (x8_2 - 7)))))+(Go.bits .xor .i64 (Go.bits .xor .i64 t174 t175) (wrap64 (Int.tdiv (rd x7_2 (ji10)) 8)))))+(rd x7_2 (wrap64 (x8_2 - 16))))) 4294967296]) (wrap64 (x8_2+1))) else (none)) else (none)) else (none)) else (none)) else (none))=some r:=H
      have A19:=zK A190
      clear A190
      obtain ⟨ji20,hji20⟩:∃ j_:Int,(wrap64 (x8_2 - 7))=j_:=⟨_,rfl⟩
      replace H:(if 0≤(ji20) then (if (ji20)<(x7_2.length:Int) then (if 0≤(wrap64 (x8_2 - 16)) then (if (wrap64 (x8_2 - 16))<(x7_2.length:Int) then (if x7_2.length<17592186044416 then (legateref02_Block.l0 k2 l0 a1 (x7_2++[Int.tmod (wrap64 ((wrap64 ((wrap64 ((Go.bits .xor .i64 (Go.bits .xor .i64 t176 t177) (wrap64 (Int.tdiv (rd x7_2 (ji13)) 1024)))+(rd x7_2 (ji20))))+(Go.bits .xor .i64 (Go.bits .xor .i64 t174 t175) (wrap64 (Int.tdiv (rd x7_2 (ji10)) 8)))))+(rd x7_2 (wrap64 (x8_2 - 16))))) 4294967296]) (wrap64 (x8_2+1))) else (none)) else (none)) else (none)) else (none)) else (none))=some r:=by first|(rw [hji20] at H; exact H)|(simp only [hji20] at H ⊢; exact H)
      (try rw [hji20] at A16)
      (try rw [hji20] at A17)
      (try rw [hji20] at A18)
      (try rw [hji20] at A19)
      have hji20w:(IntKind.i64.wrap (x8_2 - 7))=ji20:=(i64_w _).trans hji20
      by_cases c21:0≤(ji20)
      case neg =>
       rw [if_neg c21] at H
       exact absurd H (by simp)
      rw [if_pos c21] at H
      have c21b0:decide (0≤(ji20))=true:=decide_eq_true c21
      clear c21
      by_cases c22:(ji20)<(x7_2.length:Int)
      case neg =>
       rw [if_neg c22] at H
       exact absurd H (by simp)
      rw [if_pos c22] at H
      have c22b0:decide ((ji20)<(x7_2.length:Int))=true:=decide_eq_true c22
      clear c22
      obtain ⟨ji23,hji23⟩:∃ j_:Int,(wrap64 (x8_2 - 16))=j_:=⟨_,rfl⟩
      replace H:(if 0≤(ji23) then (if (ji23)<(x7_2.length:Int) then (if x7_2.length<17592186044416 then (legateref02_Block.l0 k2 l0 a1 (x7_2++[Int.tmod (wrap64 ((wrap64 ((wrap64 ((Go.bits .xor .i64 (Go.bits .xor .i64 t176 t177) (wrap64 (Int.tdiv (rd x7_2 (ji13)) 1024)))+(rd x7_2 (ji20))))+(Go.bits .xor .i64 (Go.bits .xor .i64 t174 t175) (wrap64 (Int.tdiv (rd x7_2 (ji10)) 8)))))+(rd x7_2 (ji23)))) 4294967296]) (wrap64 (x8_2+1))) else (none)) else (none)) else (none))=some r:=by first|(rw [hji23] at H; exact H)|(simp only [hji23] at H ⊢; exact H)
      (try rw [hji23] at A16)
      (try rw [hji23] at A17)
      (try rw [hji23] at A18)
      (try rw [hji23] at A19)
      have hji23w:(IntKind.i64.wrap (x8_2 - 16))=ji23:=(i64_w _).trans hji23
      by_cases c24:0≤(ji23)
      case neg =>
       rw [if_neg c24] at H
       exact absurd H (by simp)
      rw [if_pos c24] at H
      have c24b0:decide (0≤(ji23))=true:=decide_eq_true c24
      clear c24
      by_cases c25:(ji23)<(x7_2.length:Int)
      case neg =>
       rw [if_neg c25] at H
       exact absurd H (by simp)
      rw [if_pos c25] at H
      have c25b0:decide ((ji23)<(x7_2.length:Int))=true:=decide_eq_true c25
      clear c25
      by_cases c26:x7_2.length<17592186044416
      case neg =>
       rw [if_neg c26] at H
       exact absurd H (by simp)
      rw [if_pos c26] at H
      have LMc26:=zK c26
      clear c26
      obtain ⟨y180,hy180⟩:∃ y_:List Int,y_=(x7_2++[Int.tmod (wrap64 ((wrap64 ((wrap64 ((Go.bits .xor .i64 (Go.bits .xor .i64 t176 t177) (wrap64 (Int.tdiv (rd x7_2 (ji13)) 1024)))+(rd x7_2 (ji20))))+(Go.bits .xor .i64 (Go.bits .xor .i64 t174 t175) (wrap64 (Int.tdiv (rd x7_2 (ji10)) 8)))))+(rd x7_2 (ji23)))) 4294967296]):=⟨_,rfl⟩
      replace H:(legateref02_Block.l0 k2 l0 a1 y180 (wrap64 (x8_2+1)))=some r:=by first|(rw [hy180]; with_reducible exact H)|(have H2_:=(Option.bind_some _ _).symm.trans H; rw [hy180]; with_reducible exact H2_)|(have H2_:=(Option.bind_some _ _).symm.trans H; with_reducible exact H2_)|with_reducible exact H|(rw [hy180]; exact H)|exact H
      have Ny180:=zK hy180
      clear hy180
      have H':=zK H
      clear H
      obtain ⟨Ao27,co27,eo27⟩:=Kd.R_slice HO_7.out
      subst eo27
      have p172:0≤((ji10):Int):=of_decide_eq_true (by first|(with_reducible assumption)|assumption)
      have q172:(ji10)<(x7_2.length:Int):=of_decide_eq_true (by first|(with_reducible assumption)|assumption)
      obtain ⟨ad172,e172,hx172_0⟩:=Kd.at_int (Kd.R_reads' HO_7.out).2.2 (ji10) p172 q172
      cases e172
      replace p172:=eq_true p172
      replace q172:=eq_true q172
      have p173:0≤((ji13):Int):=of_decide_eq_true (by first|(with_reducible assumption)|assumption)
      have q173:(ji13)<(x7_2.length:Int):=of_decide_eq_true (by first|(with_reducible assumption)|assumption)
      obtain ⟨ad173,e173,hx173_0⟩:=Kd.at_int (Kd.R_reads' HO_7.out).2.2 (ji13) p173 q173
      obtain rfl:ad172=ad173:=(by injection e173)
      replace p173:=eq_true p173
      replace q173:=eq_true q173
      try go_wp2_with (first|((with_reducible refine gate_callee (f:=61) rfl ?_); refine goesL_ (some 48) rfl rfl Tryd.func61 (by kernel_rfl) rfl #[.int .i64 (rd x7_2 (ji10)),.int .i64 7] rfl (by (try simp only [zm]); first|done|(simp only [hji10]; rfl)|rfl|(simp only [zl]; rfl)) ?_; (with_reducible refine (legateref02_turn.calls (rd x7_2 (ji10)) 7 t174 _ A16.out).mono ?_); rintro e w28 ⟨rfl,hb⟩; refine ⟨_,rfl,?_⟩; have n0_:=zK (Kd.R_below (by (with_reducible repeat (first|apply Kd.R_alloc|apply Kd.R_drewN|apply Kd.R_drew)); exact HO_7.out) hb); have n1_:=zK (below_step (by repeat (first|(with_reducible first|exact HB.out|apply zA|apply zN|apply zD)|exact HB.out)) hb); clear HO_7; clear HB; have HO_7:=n0_; have HB:=n1_; clear n0_ n1_; (try clear hb); (try clear hb2); (try clear hk); (try clear hi))|((with_reducible refine gate_callee (f:=61) rfl ?_); refine goesL_ (some 50) rfl rfl Tryd.func61 (by kernel_rfl) rfl #[.int .i64 (rd x7_2 (ji10)),.int .i64 18] rfl (by (try simp only [zm]); first|done|(simp only [hji10]; rfl)|rfl|(simp only [zl]; rfl)) ?_; (with_reducible refine (legateref02_turn.calls (rd x7_2 (ji10)) 18 t175 _ A17.out).mono ?_); rintro e w29 ⟨rfl,hb⟩; refine ⟨_,rfl,?_⟩; have n0_:=zK (Kd.R_below (by (with_reducible repeat (first|apply Kd.R_alloc|apply Kd.R_drewN|apply Kd.R_drew)); exact HO_7.out) hb); have n1_:=zK (below_step (by repeat (first|(with_reducible first|exact HB.out|apply zA|apply zN|apply zD)|exact HB.out)) hb); clear HO_7; clear HB; have HO_7:=n0_; have HB:=n1_; clear n0_ n1_; (try clear hb); (try clear hb2); (try clear hk); (try clear hi))|((with_reducible refine gate_callee (f:=61) rfl ?_); refine goesL_ (some 56) rfl rfl Tryd.func61 (by kernel_rfl) rfl #[.int .i64 (rd x7_2 (ji13)),.int .i64 17] rfl (by (try simp only [zm]); first|done|(simp only [hji13]; rfl)|rfl|(simp only [zl]; rfl)) ?_; (with_reducible refine (legateref02_turn.calls (rd x7_2 (ji13)) 17 t176 _ A18.out).mono ?_); rintro e w30 ⟨rfl,hb⟩; refine ⟨_,rfl,?_⟩; have n0_:=zK (Kd.R_below (by (with_reducible repeat (first|apply Kd.R_alloc|apply Kd.R_drewN|apply Kd.R_drew)); exact HO_7.out) hb); have n1_:=zK (below_step (by repeat (first|(with_reducible first|exact HB.out|apply zA|apply zN|apply zD)|exact HB.out)) hb); clear HO_7; clear HB; have HO_7:=n0_; have HB:=n1_; clear n0_ n1_; (try clear hb); (try clear hb2); (try clear hk); (try clear hi))|((with_reducible refine gate_callee (f:=61) rfl ?_); refine goesL_ (some 58) rfl rfl Tryd.func61 (by kernel_rfl) rfl #[.int .i64 (rd x7_2 (ji13)),.int .i64 19] rfl (by (try simp only [zm]); first|done|(simp only [hji13]; rfl)|rfl|(simp only [zl]; rfl)) ?_; (with_reducible refine (legateref02_turn.calls (rd x7_2 (ji13)) 19 t177 _ A19.out).mono ?_); rintro e w31 ⟨rfl,hb⟩; refine ⟨_,rfl,?_⟩; have n0_:=zK (Kd.R_below (by (with_reducible repeat (first|apply Kd.R_alloc|apply Kd.R_drewN|apply Kd.R_drew)); exact HO_7.out) hb); have n1_:=zK (below_step (by repeat (first|(with_reducible first|exact HB.out|apply zA|apply zN|apply zD)|exact HB.out)) hb); clear HO_7; clear HB; have HO_7:=n0_; have HB:=n1_; clear n0_ n1_; (try clear hb); (try clear hb2); (try clear hk); (try clear hi)))
      have n0_:=zK (Kd.R_drew HO_7.out)
      have n1_:=zK (zD HB.out)
      clear HO_7
      clear HB
      have HO_7:=n0_
      have HB:=n1_
      clear n0_ n1_
      have p178:0≤((ji20):Int):=of_decide_eq_true (by first|(with_reducible assumption)|assumption)
      have q178:(ji20)<(x7_2.length:Int):=of_decide_eq_true (by first|(with_reducible assumption)|assumption)
      obtain ⟨ad178,e178,hx178_0⟩:=Kd.at_int (Kd.R_reads' HO_7.out).2.2 (ji20) p178 q178
      obtain rfl:ad172=ad178:=(by injection e178)
      replace p178:=eq_true p178
      replace q178:=eq_true q178
      have p179:0≤((ji23):Int):=of_decide_eq_true (by first|(with_reducible assumption)|assumption)
      have q179:(ji23)<(x7_2.length:Int):=of_decide_eq_true (by first|(with_reducible assumption)|assumption)
      obtain ⟨ad179,e179,hx179_0⟩:=Kd.at_int (Kd.R_reads' HO_7.out).2.2 (ji23) p179 q179
      obtain rfl:ad172=ad179:=(by injection e179)
      replace p179:=eq_true p179
      replace q179:=eq_true q179
      refine start_ (n:=20) (S:=fun w'=>w'.cell? (ad172.add ((ji20)).toNat)=some (.int .i64 (rd x7_2 (ji20)))∧w'.cell? (ad172.add ((ji23)).toNat)=some (.int .i64 (rd x7_2 (ji23)))) (ds:=[17,18]) #[G,G,G,G,G,G,G,G,G,G,G,G,G,G,G,G,G,G,G,G] (by kernel_rfl) rfl rfl ⟨hx178_0,hx179_0⟩ (fun hHeld=>?_); refine with_tabW legateref02_Block.tab11 legateref02_Block.bits11 (fun HT_ HW_=>?_)
      generalize w31.drew=w32 at HO_7 HB hx178_0 hx179_0 hHeld ⊢
      refine zq 0 (some 63) ?_ #[O,G,G,G,G,G,G,G,G,G,G,G,G,G,G,G,G,G,G,G] rfl rfl (any_of HT_.out (by kernel_rfl)) (fun _ _ _ h=>h) (Or.inl ⟨by rfl,?_⟩) ?_ ?_ ?_
      rotate_left;(intro w';go_simp;with_reducible rfl);rotate_left;(simp only [Act.put,zp];rfl)
      refine zq 1 (some 64) ?_ #[O,O,G,G,G,G,G,G,G,G,G,G,G,G,G,G,G,G,G,G] rfl rfl (any_of HT_.out (by kernel_rfl)) (fun _ _ _ h=>h) (Or.inl ⟨by rfl,?_⟩) ?_ ?_ ?_
      rotate_left;(intro w';go_simp;with_reducible rfl);rotate_left;(simp only [Act.put,zp];rfl)
      refine zq 2 (some 65) ?_ #[O,O,O,G,G,G,G,G,G,G,G,G,G,G,G,G,G,G,G,G] rfl rfl (any_of HT_.out (by kernel_rfl)) (fun _ _ _ h=>h) (Or.inl ⟨by rfl,?_⟩) ?_ ?_ ?_
      rotate_left;(intro w';go_simp;with_reducible rfl);rotate_left;(simp only [Act.put,zp];rfl)
      refine zq 3 (some 66) ?_ #[O,O,O,O,G,G,G,G,G,G,G,G,G,G,G,G,G,G,G,G] rfl rfl (any_of HT_.out (by kernel_rfl)) (fun _ _ _ h=>h) (Or.inl ⟨by rfl,?_⟩) ?_ ?_ ?_
      rotate_left;(intro w';go_simp;with_reducible rfl);rotate_left;(simp only [Act.put,zp];rfl)
      refine zq 4 (some 67) ?_ #[O,O,O,O,O,G,G,G,G,G,G,G,G,G,G,G,G,G,G,G] rfl rfl (any_of HT_.out (by kernel_rfl)) (fun _ _ _ h=>h) (Or.inl ⟨by rfl,?_⟩) ?_ ?_ ?_
      rotate_left;(intro w';go_simp;with_reducible rfl);rotate_left;(simp only [Act.put,zp];rfl)
      refine zq 5 (some 68) ?_ #[O,O,O,O,O,O,G,G,G,G,G,G,G,G,G,G,G,G,G,G] rfl rfl (any_of HT_.out (by kernel_rfl)) (fun _ _ _ h=>h) (Or.inl ⟨by rfl,?_⟩) ?_ ?_ ?_
      rotate_left;(intro w';go_simp;with_reducible rfl);rotate_left;(simp only [Act.put,zp];rfl)
      refine zq 8 (some 71) ?_ #[O,O,O,O,O,O,G,G,O,G,G,G,G,G,G,G,G,G,G,G] rfl rfl (any_of HT_.out (by kernel_rfl)) (fun _ _ _ h=>h) (Or.inl ⟨by rfl,?_⟩) ?_ ?_ ?_
      rotate_left;(intro w';go_simp;with_reducible rfl);rotate_left;(simp only [Act.put,zp];rfl)
      refine zq 10 (some 73) ?_ #[O,O,O,O,O,O,G,G,O,G,O,G,G,G,G,G,G,G,G,G] rfl rfl (any_of HT_.out (by kernel_rfl)) (fun _ _ _ h=>h) (Or.inl ⟨by rfl,?_⟩) ?_ ?_ ?_
      rotate_left;(intro w';go_simp;with_reducible rfl);rotate_left;(simp only [Act.put,zp];rfl)
      refine zq 11 (some 74) ?_ #[O,O,O,O,O,O,G,G,O,G,O,O,G,G,G,G,G,G,G,G] rfl rfl (any_of HT_.out (by kernel_rfl)) (fun _ _ _ h=>h) (Or.inl ⟨by rfl,?_⟩) ?_ ?_ ?_
      rotate_left;(intro w';go_simp;with_reducible rfl);rotate_left;(simp only [Act.put,zp];rfl)
      refine zq 12 (some 75) ?_ #[O,O,O,O,O,O,G,G,O,G,O,O,O,G,G,G,G,G,G,G] rfl rfl (any_of HT_.out (by kernel_rfl)) (fun _ _ _ h=>h) (Or.inl ⟨by rfl,?_⟩) ?_ ?_ ?_
      rotate_left;(intro w';go_simp;with_reducible rfl);rotate_left;(simp only [Act.put,zp];rfl)
      refine zq 13 (some 76) ?_ #[O,O,O,O,O,O,G,G,O,G,O,O,O,O,G,G,G,G,G,G] rfl rfl (any_of HT_.out (by kernel_rfl)) (fun _ _ _ h=>h) (Or.inl ⟨by rfl,?_⟩) ?_ ?_ ?_
      rotate_left;(intro w';go_simp;with_reducible rfl);rotate_left;(simp only [Act.put,zp];rfl)
      refine take_ (i:=6) (N:=some 69) (v:=?_) (a':=?_) #[O,O,O,O,O,O,O,G,O,G,O,O,O,O,G,G,G,G,G,G] rfl rfl (take_ofW HT_.out HW_.out (by kernel_rfl)) (fun _ _ _ h=>h) (Or.inl ⟨by rfl,?_⟩) hHeld ?_ ?_
      rotate_left
      ·rintro w' ⟨s0,s1⟩
       go_simp
       with_reducible rfl
      rotate_left
      ·simp only [Act.put,zp]
       rfl
      refine zq 7 (some 70) ?_ #[O,O,O,O,O,O,O,O,O,G,O,O,O,O,G,G,G,G,G,G] rfl rfl (any_of HT_.out (by kernel_rfl)) (fun _ _ _ h=>h) (Or.inl ⟨by rfl,?_⟩) ?_ ?_ ?_
      rotate_left;(intro w';go_simp;with_reducible rfl);rotate_left;(simp only [Act.put,zp];rfl)
      refine zq 9 (some 72) ?_ #[O,O,O,O,O,O,O,O,O,O,O,O,O,O,G,G,G,G,G,G] rfl rfl (any_of HT_.out (by kernel_rfl)) (fun _ _ _ h=>h) (Or.inl ⟨by rfl,?_⟩) ?_ ?_ ?_
      rotate_left;(intro w';go_simp;with_reducible rfl);rotate_left;(simp only [Act.put,zp];rfl)
      refine take_ (i:=14) (N:=some 77) (v:=?_) (a':=?_) #[O,O,O,O,O,O,O,O,O,O,O,O,O,O,O,G,G,G,G,G] rfl rfl (take_ofW HT_.out HW_.out (by kernel_rfl)) (fun _ _ _ h=>h) (Or.inl ⟨by rfl,?_⟩) hHeld ?_ ?_
      rotate_left
      ·rintro w' ⟨s0,s1⟩
       go_simp
       with_reducible rfl
      rotate_left
      ·simp only [Act.put,zp]
       rfl
      refine zq 15 (some 78) ?_ #[O,O,O,O,O,O,O,O,O,O,O,O,O,O,O,O,G,G,G,G] rfl rfl (any_of HT_.out (by kernel_rfl)) (fun _ _ _ h=>h) (Or.inl ⟨by rfl,?_⟩) ?_ ?_ ?_
      rotate_left;(intro w';go_simp;with_reducible rfl);rotate_left;(simp only [Act.put,zp];rfl)
      refine zq 16 (some 79) ?_ #[O,O,O,O,O,O,O,O,O,O,O,O,O,O,O,O,O,G,G,G] rfl rfl (any_of HT_.out (by kernel_rfl)) (fun _ _ _ h=>h) (Or.inl ⟨by rfl,?_⟩) ?_ ?_ ?_
      rotate_left;(intro w';go_simp;with_reducible rfl);rotate_left;(simp only [Act.put,zp];rfl)
      refine last_ (i:=17) (N:=some 80) #[O,O,O,O,O,O,O,O,O,O,O,O,O,O,O,O,O,O,G,G] rfl rfl (one_of HT_.out (by kernel_rfl)) (by decide) (fun K hK=>?_)
      refine value_ (w1:=?_) (v:=?_) (by rfl) rfl ?_ ?_
      rotate_left 2
      ·go_simp
       constructor
       ·rfl
       ·rfl
      refine hK.out _ _ ?_
      clear hK K
      refine norm_ (a':=?_) ?_ ?_
      rotate_left
      ·show Act.put _ (some 80) _=_
       simp only [Act.put,zp]
       rfl
      refine last_ (i:=18) (N:=some 81) #[O,O,O,O,O,O,O,O,O,O,O,O,O,O,O,O,O,O,O,G] rfl rfl (one_of HT_.out (by kernel_rfl)) (by decide) (fun K hK=>?_)
      refine Kd.R_append_step (Kd.int .i64) (w0:=w) w.heap.size (by rfl) (.tmp 63) (.tmp 80) 27 3 (.int .i64 0) 8 rfl Tryd.underlying27 info3 rfl (by decide) (by omega) (.slice (some ad172) x7_2.length co27) x7_2 (Int.tmod (wrap64 ((wrap64 ((wrap64 ((Go.bits .xor .i64 (Go.bits .xor .i64 t176 t177) (wrap64 (Int.tdiv (rd x7_2 (ji13)) 1024)))+(rd x7_2 (ji20))))+(Go.bits .xor .i64 (Go.bits .xor .i64 t174 t175) (wrap64 (Int.tdiv (rd x7_2 (ji10)) 8)))))+(rd x7_2 (ji23)))) 4294967296) [.int .i64 (Int.tmod (wrap64 ((wrap64 ((wrap64 ((Go.bits .xor .i64 (Go.bits .xor .i64 t176 t177) (wrap64 (Int.tdiv (rd x7_2 (ji13)) 1024)))+(rd x7_2 (ji20))))+(Go.bits .xor .i64 (Go.bits .xor .i64 t174 t175) (wrap64 (Int.tdiv (rd x7_2 (ji10)) 8)))))+(rd x7_2 (ji23)))) 4294967296)] (fun _=>True) (fun _=>False) rfl rfl ?aP (fun _ hk=>hk.elim) ?aF ?aO ?aB ?aS ?aL ?_
      (case aP=>exact rfl)
      (case aB=>exact (by repeat (first|(with_reducible first|exact HB.out|apply zA|apply zN|apply zD)|exact HB.out)))
      (case aF=>exact (fun _ _=>trivial))
      (case aO=>exact (by (with_reducible repeat (first|apply Kd.R_alloc|apply Kd.R_drewN|apply Kd.R_drew)); exact HO_7.out))
      (case aS=>exact (below_size (by repeat (first|(with_reducible first|exact HB.out|apply zA|apply zN|apply zD)|exact HB.out))))
      (case aL=>have:=LMc26.out; omega)
      intro v181 w33 ho hb hg hat
      rw [← Ny180.out] at ho
      have n0_:=zK (hb)
      have n1_:=zK (ho)
      clear HB
      clear HO_7
      have HB:=n0_
      have HO182:=n1_
      clear n0_ n1_
      clear ho hb hg hat
      refine hK.out _ _ ?_
      clear hK K
      refine norm_ (a':=?_) ?_ ?_
      rotate_left
      ·show Act.put _ (some 81) _=_
       simp only [Act.put,zp]
       rfl
      refine zq 19 (some 7) ?_ #[O,O,O,O,O,O,O,O,O,O,O,O,O,O,O,O,O,O,O,O] rfl rfl (any_of HT_.out (by kernel_rfl)) (fun _ _ _ h=>h) (Or.inl ⟨by rfl,?_⟩) ?_ ?_ ?_
      rotate_left;(intro w';go_simp;with_reducible rfl);rotate_left;(simp only [Act.put,zp];rfl)
      refine done_ (done_of HT_.out (by kernel_rfl)) ?_
      try go_wp2
      go_roundg k2
      case measure=>have:=HJ3.out; have:=HK2.out; omega
      case rel=>exact ⟨(y180),(wrap64 (x8_2+1)),(by first|rfl|(simp; done)|(simp [*]; done)),H',⟨by have:=HJ3.out; have:=HK2.out; omega⟩,⟨by (with_reducible repeat (first|apply Kd.R_alloc|apply Kd.R_drewN|apply Kd.R_drew)); exact HO182.out⟩,⟨by repeat (first|(with_reducible first|exact HB.out|apply zA|apply zN|apply zD)|exact HB.out)⟩⟩
     rw [if_neg c9] at H
     have c9b0:decide (x8_2<64)=false:=decide_eq_false c9
     clear c9
     replace H:=Option.bind_eq_some_iff.mp H
     obtain ⟨t183,A340,H⟩:=H
     replace H:((legateref02_words.f k2 a1).bind fun t186=>(legateref02_Block.l1 k2 l0 x7_2 t183 t186 0))=some r:=H
     have A34:=zK A340
     clear A340
     replace H:=Option.bind_eq_some_iff.mp H
     obtain ⟨t186,A350,H⟩:=H
     replace H:(legateref02_Block.l1 k2 l0 x7_2 t183 t186 0)=some r:=H
     have A35:=zK A350
     clear A350
     have H':=zK H
     clear H
     go_wp2_with (first|((with_reducible refine gate_callee (f:=60) rfl ?_); refine goesL_ (some 83) rfl rfl Tryd.func60 (by kernel_rfl) rfl #[.string a1] rfl (by (try simp only [zm]); first|done|rfl|(simp only [zl]; rfl)) ?_; (with_reducible refine (legateref02_words.calls k2 a1 t183 _ A34.out).mono ?_); rintro e w36 ⟨v184,rfl,ho0,hb⟩; refine ⟨_,rfl,?_⟩; have n0_:=zK (Kd.R_elder' (by (with_reducible repeat (first|apply Kd.R_alloc|apply Kd.R_drewN|apply Kd.R_drew)); exact HO_7.out) (Kd.R_base ho0) hb); have n1_:=zK (Kd.R_lower (Kd.R_new' ho0 (Kd.R_lt (by (with_reducible repeat (first|apply Kd.R_alloc|apply Kd.R_drewN|apply Kd.R_drew)); exact HO_7.out))) (below_size (by repeat (first|(with_reducible first|exact HB.out|apply zA|apply zN|apply zD)|exact HB.out)))); have n2_:=zK (below_step (by repeat (first|(with_reducible first|exact HB.out|apply zA|apply zN|apply zD)|exact HB.out)) hb); clear HO_7; clear HB; have HO_7:=n0_; have HO185:=n1_; have HB:=n2_; clear n0_ n1_ n2_; (try clear hb); (try clear hb2); (try clear hk); (try clear hi); (try clear ho0))|((with_reducible refine gate_callee (f:=60) rfl ?_); refine goesL_ (some 85) rfl rfl Tryd.func60 (by kernel_rfl) rfl #[.string a1] rfl (by (try simp only [zm]); first|done|rfl|(simp only [zl]; rfl)) ?_; (with_reducible refine (legateref02_words.calls k2 a1 t186 _ A35.out).mono ?_); rintro e w37 ⟨v187,rfl,ho0,hb⟩; refine ⟨_,rfl,?_⟩; have n0_:=zK (Kd.R_elder' (by (with_reducible repeat (first|apply Kd.R_alloc|apply Kd.R_drewN|apply Kd.R_drew)); exact HO_7.out) (Kd.R_base ho0) hb); have n1_:=zK (Kd.R_elder' (by (with_reducible repeat (first|apply Kd.R_alloc|apply Kd.R_drewN|apply Kd.R_drew)); exact HO185.out) (Kd.R_base ho0) hb); have n2_:=zK (Kd.R_lower (Kd.R_new' (Kd.R_new' ho0 (Kd.R_lt (by (with_reducible repeat (first|apply Kd.R_alloc|apply Kd.R_drewN|apply Kd.R_drew)); exact HO_7.out))) (Kd.R_lt (by (with_reducible repeat (first|apply Kd.R_alloc|apply Kd.R_drewN|apply Kd.R_drew)); exact HO185.out))) (below_size (by repeat (first|(with_reducible first|exact HB.out|apply zA|apply zN|apply zD)|exact HB.out)))); have n3_:=zK (below_step (by repeat (first|(with_reducible first|exact HB.out|apply zA|apply zN|apply zD)|exact HB.out)) hb); clear HO_7; clear HO185; clear HB; have HO_7:=n0_; have HO185:=n1_; have HO188:=n2_; have HB:=n3_; clear n0_ n1_ n2_ n3_; (try clear hb); (try clear hb2); (try clear hk); (try clear hi); (try clear ho0)))
     go_loopg [14,15] k2 (fun kq v14 v15 w'=>∃ (x14_3:List Int) (x15_3:Int),v15=.int .i64 x15_3∧Aside0 (legateref02_Block.l1 kq l0 x7_2 t183 x14_3 x15_3=some r)∧Aside0 (kq≤k2)∧Aside0 (Kd.R (Kd.int .i64) 3 w' w.heap.size (fun k_=>some k_≠(v184:Value).ownBlock∧some k_≠(v14:Value).ownBlock) u7 x7_2)∧Aside0 (Kd.R (Kd.int .i64) 3 w' w.heap.size (fun k_=>some k_≠(u7:Value).ownBlock∧some k_≠(v14:Value).ownBlock) v184 t183)∧Aside0 (Kd.R (Kd.int .i64) 3 w' w.heap.size (fun k_=>some k_≠(u7:Value).ownBlock∧some k_≠(v184:Value).ownBlock) v14 x14_3)∧Aside0 (Below w.heap.size w w'))
     case atStart=>exact ⟨(t186),(0),(by first|rfl|(simp; done)|(simp [*]; done)),H',⟨Nat.le_refl _⟩,⟨by (with_reducible repeat (first|apply Kd.R_alloc|apply Kd.R_drewN|apply Kd.R_drew)); exact Kd.R_mono HO_7.out (fun _ hk=>⟨hk.1.2,hk.2⟩)⟩,⟨by (with_reducible repeat (first|apply Kd.R_alloc|apply Kd.R_drewN|apply Kd.R_drew)); exact Kd.R_mono HO185.out (fun _ hk=>⟨hk.1.2,hk.2⟩)⟩,⟨by (with_reducible repeat (first|apply Kd.R_alloc|apply Kd.R_drewN|apply Kd.R_drew)); exact Kd.R_mono HO188.out (fun _ hk=>⟨hk.1.2,hk.2⟩)⟩,⟨by repeat (first|(with_reducible first|exact HB.out|apply zA|apply zN|apply zD)|exact HB.out)⟩⟩
     case round =>
      clear H'
      try clear c1
      try clear p1
      try clear q1
      try clear hx1
      try clear c2
      try clear p2
      try clear c5
      try clear c5b0
      try clear c5b1
      try clear c6
      try clear p6
      try clear c9
      try clear c9b0
      try clear c11
      try clear c11b0
      try clear c12
      try clear c12b0
      try clear c14
      try clear c14b0
      try clear c15
      try clear c15b0
      try clear p17
      try clear q17
      try clear hx17
      try clear c21
      try clear c21b0
      try clear c22
      try clear c22b0
      try clear c23
      try clear c24
      try clear c24b0
      try clear c25
      try clear c25b0
      try clear c26
      try clear hx172_0
      try clear hx173_0
      try clear hx178_0
      try clear hx179_0
      try clear p172
      try clear p173
      try clear p178
      try clear p179
      try clear p2
      try clear q172
      try clear q173
      try clear q178
      try clear q179
      obtain ⟨x14_3,x15_3,rfl,HA,HK3,HO_7,HO_13,HO_14,HB⟩:=hrel
      cases gk with
      | zero=>exact absurd HA.out (by simp [legateref02_Block.l1])
      | succ k3 =>
       have H:=HA.out
       clear HA
       simp only [legateref02_Block.l1] at H
       by_cases c38:x15_3<64
       case neg =>
        rw [if_neg c38] at H
        have c38b0:decide (x15_3<64)=false:=decide_eq_false c38
        clear c38
        have H':=zK H
        clear H
        go_wp2
        go_loopg [22] k3 (fun kq v22 w'=>∃ (x14_4:List Int) (x22_4:Int),v22=.int .i64 x22_4∧Aside0 (legateref02_Block.l2 kq t183 x14_4 x22_4=some r)∧Aside0 (kq≤k3)∧Aside0 (Kd.R (Kd.int .i64) 3 w' w.heap.size (fun k_=>some k_≠(u14:Value).ownBlock) v184 t183)∧Aside0 (Kd.R (Kd.int .i64) 3 w' w.heap.size (fun k_=>some k_≠(v184:Value).ownBlock) u14 x14_4)∧Aside0 (Below w.heap.size w w'))
        case atStart=>exact ⟨(x14_3),(0),(by first|rfl|(simp; done)|(simp [*]; done)),H',⟨Nat.le_refl _⟩,⟨by (with_reducible repeat (first|apply Kd.R_alloc|apply Kd.R_drewN|apply Kd.R_drew)); exact Kd.R_mono HO_13.out (fun _ hk=>hk.2)⟩,⟨by (with_reducible repeat (first|apply Kd.R_alloc|apply Kd.R_drewN|apply Kd.R_drew)); exact Kd.R_mono HO_14.out (fun _ hk=>hk.2)⟩,⟨by repeat (first|(with_reducible first|exact HB.out|apply zA|apply zN|apply zD)|exact HB.out)⟩⟩
        case round =>
         clear H'
         try clear p2
         try clear q2
         try clear hx2
         try clear qi2
         try clear c3
         try clear c4
         try clear c5
         try clear c6
         try clear p6
         try clear p20
         try clear q20
         try clear hx20
         try clear qi20
         try clear p21
         try clear q21
         try clear hx21
         try clear qi21
         try clear c38
         try clear c38b0
         try clear c39
         try clear c40
         try clear c41
         try clear c42
         try clear c43
         try clear c44
         try clear c45
         try clear c49
         try clear c50
         try clear c51
         try clear c55
         try clear c61
         try clear p64
         try clear hx206_0
         try clear hx207_0
         try clear hx208_0
         try clear hx209_0
         try clear hx210_0
         try clear hx211_0
         try clear hx212_0
         try clear p206
         try clear p207
         try clear p208
         try clear p209
         try clear p210
         try clear p211
         try clear p212
         try clear q206
         try clear q207
         try clear q208
         try clear q209
         try clear q210
         try clear q211
         try clear q212
         obtain ⟨x14_4,x22_4,rfl,HA,HK4,HO_13,HO_14,HB⟩:=hrel
         cases gk with
         | zero=>exact absurd HA.out (by simp [legateref02_Block.l2])
         | succ k4 =>
          have H:=HA.out
          clear HA
          simp only [legateref02_Block.l2] at H
          by_cases c70:x22_4<8
          case neg =>
           rw [if_neg c70] at H
           have c70b0:decide (x22_4<8)=false:=decide_eq_false c70
           clear c70
           replace H:=Option.bind_eq_some_iff.mp H
           obtain ⟨t219,A790,H⟩:=H
           replace H:(some t219)=some r:=H
           have A79:=zK A790
           clear A790
           obtain rfl:=Option.some.inj H
           obtain ⟨Ao80,co80,eo80⟩:=Kd.R_slice HO_14.out
           subst eo80
           go_wp2_with (first|((with_reducible refine gate_callee (f:=62) rfl ?_); refine goesL_ (some 210) rfl rfl Tryd.func62 (by kernel_rfl) rfl #[.slice Ao80 x14_4.length co80] rfl (by (try simp only [zm]); first|done|rfl|(simp only [zl]; rfl)) ?_; (with_reducible refine (legateref02_bytes.calls k4 _ _ x14_4 t219 _ ?side1 ?side2 A79.out).mono ?_); (case side1=>repeat (first|exact (Kd.R_reads' HO_14.out).2.2|(with_reducible refine Kd.C_alloc ?_ _)|(with_reducible refine Kd.C_drewN ?_ _)|(with_reducible refine Kd.C_drew ?_))); (case side2=>exact (Kd.R_reads' HO_14.out).2.1); rintro e w81 ⟨rfl,hb⟩; refine ⟨_,rfl,?_⟩; have n0_:=zK (Kd.R_below (by (with_reducible repeat (first|apply Kd.R_alloc|apply Kd.R_drewN|apply Kd.R_drew)); exact HO_13.out) hb); have n1_:=zK (Kd.R_below (by (with_reducible repeat (first|apply Kd.R_alloc|apply Kd.R_drewN|apply Kd.R_drew)); exact HO_14.out) hb); have n2_:=zK (below_step (by repeat (first|(with_reducible first|exact HB.out|apply zA|apply zN|apply zD)|exact HB.out)) hb); clear HO_13; clear HO_14; clear HB; have HO_13:=n0_; have HO_14:=n1_; have HB:=n2_; clear n0_ n1_ n2_; (try clear hb); (try clear hb2); (try clear hk); (try clear hi)))
           go_ret
           exact ⟨by first|rfl|(simp [errW_none,errW_some]<;>rfl)|(simp [*,errW_none,errW_some]<;>rfl),by repeat (first|(with_reducible first|exact HB.out|apply zA|apply zN|apply zD)|exact HB.out)⟩
          rw [if_pos c70] at H
          have c70b0:decide (x22_4<8)=true:=decide_eq_true c70
          clear c70
          by_cases c71:0≤x22_4
          case neg =>
           rw [if_neg c71] at H
           exact absurd H (by simp)
          rw [if_pos c71] at H
          have c71b0:decide (0≤x22_4)=true:=decide_eq_true c71
          clear c71
          by_cases c72:x22_4<(x14_4.length:Int)
          case neg =>
           rw [if_neg c72] at H
           exact absurd H (by simp)
          rw [if_pos c72] at H
          have c72b0:decide (x22_4<(x14_4.length:Int))=true:=decide_eq_true c72
          clear c72
          by_cases c73:x22_4<(t183.length:Int)
          case neg =>
           rw [if_neg c73] at H
           exact absurd H (by simp)
          rw [if_pos c73] at H
          have c73b0:decide (x22_4<(t183.length:Int))=true:=decide_eq_true c73
          clear c73
          obtain ⟨y218,hy218⟩:∃ y_:List Int,y_=(x14_4.set (x22_4:Int).toNat (Int.tmod (wrap64 ((rd x14_4 x22_4)+(rd t183 x22_4))) 4294967296)):=⟨_,rfl⟩
          replace H:(legateref02_Block.l2 k4 t183 y218 (wrap64 (x22_4+1)))=some r:=by first|(rw [hy218]; with_reducible exact H)|(have H2_:=(Option.bind_some _ _).symm.trans H; rw [hy218]; with_reducible exact H2_)|(have H2_:=(Option.bind_some _ _).symm.trans H; with_reducible exact H2_)|with_reducible exact H|(rw [hy218]; exact H)|exact H
          have Ny218:=zK hy218
          clear hy218
          have H':=zK H
          clear H
          try go_wp2
          have n0_:=zK (Kd.R_drew HO_13.out)
          have n1_:=zK (Kd.R_drew HO_14.out)
          have n2_:=zK (zD HB.out)
          clear HO_13
          clear HO_14
          clear HB
          have HO_13:=n0_
          have HO_14:=n1_
          have HB:=n2_
          clear n0_ n1_ n2_
          obtain ⟨Ao76,co76,eo76⟩:=Kd.R_slice HO_14.out
          (first|subst eo76|(injection eo76 with f1_ f2_ f3_; have f4_:=f1_.symm; have f5_:=f3_.symm; clear f1_ f2_ f3_; subst f4_; subst f5_))
          have p216:0≤(x22_4:Int):=of_decide_eq_true (by first|(with_reducible assumption)|assumption)
          have q216:x22_4<(x14_4.length:Int):=of_decide_eq_true (by first|(with_reducible assumption)|assumption)
          obtain ⟨ad216,e216,hx216_0⟩:=Kd.at_int (Kd.R_reads' HO_14.out).2.2 x22_4 p216 q216
          cases e216
          replace p216:=eq_true p216
          replace q216:=eq_true q216
          obtain ⟨Ao77,co77,eo77⟩:=Kd.R_slice HO_13.out
          (first|subst eo77|(injection eo77 with f1_ f2_ f3_; have f4_:=f1_.symm; have f5_:=f3_.symm; clear f1_ f2_ f3_; subst f4_; subst f5_))
          have p217:0≤(x22_4:Int):=of_decide_eq_true (by first|(with_reducible assumption)|assumption)
          have q217:x22_4<(t183.length:Int):=of_decide_eq_true (by first|(with_reducible assumption)|assumption)
          obtain ⟨ad217,e217,hx217_0⟩:=Kd.at_int (Kd.R_reads' HO_13.out).2.2 x22_4 p217 q217
          cases e217
          replace p217:=eq_true p217
          replace q217:=eq_true q217
          have p74:0≤(x22_4:Int):=of_decide_eq_true (by first|(with_reducible assumption)|assumption)
          have q74:(x22_4:Int)<((x14_4.length:Int):Int):=of_decide_eq_true (by first|(with_reducible assumption)|assumption)
          obtain ⟨go74,co74,eo74,gb74,gl74,cl74,HG74⟩:=Kd.R_form HO_14.out (by omega)
          (first|cases eo74|(injection eo74 with ea_ en_ ec_; (first|subst ea_|(injection ea_ with ea_; subst ea_)); subst ec_; clear en_))
          have GB74:=zK gb74
          have GG74:=zK HG74
          clear gb74 gl74 HG74
          (first|simp only [add_plain] at hx216_0|skip)
          obtain ⟨hx74_0,hf74_0⟩:=Kd.R_celln 0 HO_14.out (x22_4:Int) p74 q74
          replace p74:=eq_true p74
          replace q74:=eq_true q74
          have HP78:=Kd.R_putn HO_14.out (x22_4:Int) (Int.tmod (wrap64 ((rd x14_4 x22_4)+(rd t183 x22_4))) 4294967296)
          rw [← Ny218.out] at HP78
          have HQ78:=zK HP78
          clear HP78
          refine start_ (n:=14) (S:=fun w'=>w'.cell? ⟨go74,(x22_4).toNat,none⟩=some (.int .i64 (rd x14_4 x22_4))∧w'.cell? (ad217.add (x22_4).toNat)=some (.int .i64 (rd t183 x22_4))) (ds:=[13]) #[G,G,G,G,G,G,G,G,G,G,G,G,G,G] (by kernel_rfl) rfl rfl ⟨hx216_0,hx217_0⟩ (fun hHeld=>?_); refine with_tabW legateref02_Block.tab27 legateref02_Block.bits27 (fun HT_ HW_=>?_)
          generalize wr.drew=w75 at HO_13 HO_14 HB GG74 HQ78 hf74_0 hx216_0 hx217_0 hx74_0 hHeld ⊢
          refine zq 0 (some 196) ?_ #[O,G,G,G,G,G,G,G,G,G,G,G,G,G] rfl rfl (any_of HT_.out (by kernel_rfl)) (fun _ _ _ h=>h) (Or.inl ⟨by rfl,?_⟩) ?_ ?_ ?_
          rotate_left;(intro w';go_simp;with_reducible rfl);rotate_left;(simp only [Act.put,zp];rfl)
          refine zq 1 (some 197) ?_ #[O,O,G,G,G,G,G,G,G,G,G,G,G,G] rfl rfl (any_of HT_.out (by kernel_rfl)) (fun _ _ _ h=>h) (Or.inl ⟨by rfl,?_⟩) ?_ ?_ ?_
          rotate_left;(intro w';go_simp;with_reducible rfl);rotate_left;(simp only [Act.put,zp];rfl)
          refine zq 2 (some 198) ?_ #[O,O,O,G,G,G,G,G,G,G,G,G,G,G] rfl rfl (any_of HT_.out (by kernel_rfl)) (fun _ _ _ h=>h) (Or.inl ⟨by rfl,?_⟩) ?_ ?_ ?_
          rotate_left;(intro w';go_simp;with_reducible rfl);rotate_left;(simp only [Act.put,zp];rfl)
          refine zq 3 (some 199) ?_ #[O,O,O,O,G,G,G,G,G,G,G,G,G,G] rfl rfl (any_of HT_.out (by kernel_rfl)) (fun _ _ _ h=>h) (Or.inl ⟨by rfl,?_⟩) ?_ ?_ ?_
          rotate_left;(intro w';go_simp;with_reducible rfl);rotate_left;(simp only [Act.put,zp];rfl)
          refine zq 4 (some 200) ?_ #[O,O,O,O,O,G,G,G,G,G,G,G,G,G] rfl rfl (any_of HT_.out (by kernel_rfl)) (fun _ _ _ h=>h) (Or.inl ⟨by rfl,?_⟩) ?_ ?_ ?_
          rotate_left;(intro w';go_simp;with_reducible rfl);rotate_left;(simp only [Act.put,zp];rfl)
          refine zq 6 (some 202) ?_ #[O,O,O,O,O,G,O,G,G,G,G,G,G,G] rfl rfl (any_of HT_.out (by kernel_rfl)) (fun _ _ _ h=>h) (Or.inl ⟨by rfl,?_⟩) ?_ ?_ ?_
          rotate_left;(intro w';go_simp;with_reducible rfl);rotate_left;(simp only [Act.put,zp];rfl)
          refine zq 7 (some 203) ?_ #[O,O,O,O,O,G,O,O,G,G,G,G,G,G] rfl rfl (any_of HT_.out (by kernel_rfl)) (fun _ _ _ h=>h) (Or.inl ⟨by rfl,?_⟩) ?_ ?_ ?_
          rotate_left;(intro w';go_simp;with_reducible rfl);rotate_left;(simp only [Act.put,zp];rfl)
          refine zq 8 (some 204) ?_ #[O,O,O,O,O,G,O,O,O,G,G,G,G,G] rfl rfl (any_of HT_.out (by kernel_rfl)) (fun _ _ _ h=>h) (Or.inl ⟨by rfl,?_⟩) ?_ ?_ ?_
          rotate_left;(intro w';go_simp;with_reducible rfl);rotate_left;(simp only [Act.put,zp];rfl)
          refine take_ (i:=5) (N:=some 201) (v:=?_) (a':=?_) #[O,O,O,O,O,O,O,O,O,G,G,G,G,G] rfl rfl (take_ofW HT_.out HW_.out (by kernel_rfl)) (fun _ _ _ h=>h) (Or.inl ⟨by rfl,?_⟩) hHeld ?_ ?_
          rotate_left
          ·rintro w' ⟨s0,s1⟩
           go_simp
           with_reducible rfl
          rotate_left
          ·simp only [Act.put,zp]
           rfl
          refine take_ (i:=9) (N:=some 205) (v:=?_) (a':=?_) #[O,O,O,O,O,O,O,O,O,O,G,G,G,G] rfl rfl (take_ofW HT_.out HW_.out (by kernel_rfl)) (fun _ _ _ h=>h) (Or.inl ⟨by rfl,?_⟩) hHeld ?_ ?_
          rotate_left
          ·rintro w' ⟨s0,s1⟩
           go_simp
           with_reducible rfl
          rotate_left
          ·simp only [Act.put,zp]
           rfl
          refine zq 10 (some 206) ?_ #[O,O,O,O,O,O,O,O,O,O,O,G,G,G] rfl rfl (any_of HT_.out (by kernel_rfl)) (fun _ _ _ h=>h) (Or.inl ⟨by rfl,?_⟩) ?_ ?_ ?_
          rotate_left;(intro w';go_simp;with_reducible rfl);rotate_left;(simp only [Act.put,zp];rfl)
          refine zq 11 (some 207) ?_ #[O,O,O,O,O,O,O,O,O,O,O,O,G,G] rfl rfl (any_of HT_.out (by kernel_rfl)) (fun _ _ _ h=>h) (Or.inl ⟨by rfl,?_⟩) ?_ ?_ ?_
          rotate_left;(intro w';go_simp;with_reducible rfl);rotate_left;(simp only [Act.put,zp];rfl)
          refine zq 12 (some 208) ?_ #[O,O,O,O,O,O,O,O,O,O,O,O,O,G] rfl rfl (any_of HT_.out (by kernel_rfl)) (fun _ _ _ h=>h) (Or.inl ⟨by rfl,?_⟩) ?_ ?_ ?_
          rotate_left;(intro w';go_simp;with_reducible rfl);rotate_left;(simp only [Act.put,zp];rfl)
          refine last_ (i:=13) (N:=none) #[O,O,O,O,O,O,O,O,O,O,O,O,O,O] rfl rfl (one_of HT_.out (by kernel_rfl)) (by decide) (fun K hK=>?_)
          refine skip_ (w1:=?_) (by rfl) rfl ?_ ?_
          rotate_left
          ·go_simp
           rfl
          refine hK.out _ _ ?_
          clear hK K
          refine done_ (done_of HT_.out (by kernel_rfl)) ?_
          try go_wp2
          go_roundg k4
          case measure=>have:=HJ3.out; have:=HK2.out; have:=HK3.out; have:=HK4.out; omega
          case rel=>exact ⟨(y218),(wrap64 (x22_4+1)),(by first|rfl|(simp; done)|(simp [*]; done)),H',⟨by have:=HJ3.out; have:=HK2.out; have:=HK3.out; have:=HK4.out; omega⟩,⟨by (with_reducible repeat (first|apply Kd.R_alloc|apply Kd.R_drewN|apply Kd.R_drew)); exact Kd.R_mono (Kd.R_far (p:=⟨go74,(x22_4:Int).toNat,none⟩) (Kd.R_mono HO_13.out (fun k_ hk=>(⟨hk,fun e_=>hk (by rw [e_]; rfl)⟩:_∧k_≠go74))) (fun _ hk=>hk.2) (.int .i64 (Int.tmod (wrap64 ((rd x14_4 x22_4)+(rd t183 x22_4))) 4294967296))) (fun _ hk=>hk.1)⟩,⟨by (with_reducible repeat (first|apply Kd.R_alloc|apply Kd.R_drewN|apply Kd.R_drew)); exact HQ78.out⟩,⟨by repeat (first|(with_reducible first|exact HB.out|apply zA|apply zN|apply zD|refine below_set ?_ GB74.out)|exact HB.out)⟩⟩
       rw [if_pos c38] at H
       have c38b0:decide (x15_3<64)=true:=decide_eq_true c38
       clear c38
       by_cases c39:4<(x14_3.length:Int)
       case neg =>
        rw [if_neg c39] at H
        exact absurd H (by simp)
       rw [if_pos c39] at H
       have c39b0:decide (4<(x14_3.length:Int))=true:=decide_eq_true c39
       have c39b1:decide (4<x14_3.length)=true:=decide_eq_true (by omega)
       clear c39
       by_cases c40:0<(x14_3.length:Int)
       case neg =>
        rw [if_neg c40] at H
        exact absurd H (by simp)
       rw [if_pos c40] at H
       have c40b0:decide (0<(x14_3.length:Int))=true:=decide_eq_true c40
       have c40b1:decide (0<x14_3.length)=true:=decide_eq_true (by omega)
       clear c40
       by_cases c41:5<(x14_3.length:Int)
       case neg =>
        rw [if_neg c41] at H
        exact absurd H (by simp)
       rw [if_pos c41] at H
       have c41b0:decide (5<(x14_3.length:Int))=true:=decide_eq_true c41
       have c41b1:decide (5<x14_3.length)=true:=decide_eq_true (by omega)
       clear c41
       by_cases c42:6<(x14_3.length:Int)
       case neg =>
        rw [if_neg c42] at H
        exact absurd H (by simp)
       rw [if_pos c42] at H
       have c42b0:decide (6<(x14_3.length:Int))=true:=decide_eq_true c42
       have c42b1:decide (6<x14_3.length)=true:=decide_eq_true (by omega)
       clear c42
       by_cases c43:1<(x14_3.length:Int)
       case neg =>
        rw [if_neg c43] at H
        exact absurd H (by simp)
       rw [if_pos c43] at H
       have c43b0:decide (1<(x14_3.length:Int))=true:=decide_eq_true c43
       have c43b1:decide (1<x14_3.length)=true:=decide_eq_true (by omega)
       clear c43
       by_cases c44:2<(x14_3.length:Int)
       case neg =>
        rw [if_neg c44] at H
        exact absurd H (by simp)
       rw [if_pos c44] at H
       have c44b0:decide (2<(x14_3.length:Int))=true:=decide_eq_true c44
       have c44b1:decide (2<x14_3.length)=true:=decide_eq_true (by omega)
       clear c44
       by_cases c45:7<(x14_3.length:Int)
       case neg =>
        rw [if_neg c45] at H
        exact absurd H (by simp)
       rw [if_pos c45] at H
       have c45b0:decide (7<(x14_3.length:Int))=true:=decide_eq_true c45
       have c45b1:decide (7<x14_3.length)=true:=decide_eq_true (by omega)
       clear c45
       replace H:=Option.bind_eq_some_iff.mp H
       obtain ⟨t198,A460,H⟩:=H
       replace H:((legateref02_turn.f (rd x14_3 4) 11).bind fun t199=>((legateref02_turn.f (rd x14_3 4) 25).bind fun t200=>(if 0≤x15_3 then (if x15_3<(l0.length:Int) then (if x15_3<(x7_2.length:Int) then ((legateref02_turn.f (rd x14_3 0) 2).bind fun t203=>((legateref02_turn.f (rd x14_3 0) 13).bind fun t204=>((legateref02_turn.f (rd x14_3 0) 22).bind fun t205=>(if 3<(x14_3.length:Int) then (legateref02_Block.l1 k3 l0 x7_2 t183 (([Int.tmod (wrap64 ((Int.tmod (wrap64 ((wrap64 ((wrap64 ((wrap64 ((rd x14_3 7)+(Go.bits .xor .i64 (Go.bits .xor .i64 t198 t199) t200)))+(Go.bits .xor .i64 (Go.bits .and .i64 (rd x14_3 4) (rd x14_3 5)) (Go.bits .and .i64 (wrap64 (4294967295 - (rd x14_3 4))) (rd x14_3 6)))))+(rd l0 x15_3)))+(rd x7_2 x15_3))) 4294967296)+(Int.tmod (wrap64 ((Go.bits .xor .i64 (Go.bits .xor .i64 t203 t204) t205)+(Go.bits .xor .i64 (Go.bits .xor .i64 (Go.bits .and .i64 (rd x14_3 0) (rd x14_3 1)) (Go.bits .and .i64 (rd x14_3 0) (rd x14_3 2))) (Go.bits .and .i64 (rd x14_3 1) (rd x14_3 2))))) 4294967296))) 4294967296,rd x14_3 0,rd x14_3 1,rd x14_3 2,Int.tmod (wrap64 ((rd x14_3 3)+(Int.tmod (wrap64 ((wrap64 ((wrap64 ((wrap64 ((rd x14_3 7)+(Go.bits .xor .i64 (Go.bits .xor .i64 t198 t199) t200)))+(Go.bits .xor .i64 (Go.bits .and .i64 (rd x14_3 4) (rd x14_3 5)) (Go.bits .and .i64 (wrap64 (4294967295 - (rd x14_3 4))) (rd x14_3 6)))))+(rd l0 x15_3)))+(rd x7_2 x15_3))) 4294967296))) 4294967296,rd x14_3 4,rd x14_3 5,rd x14_3 6]:List Int)) (wrap64 (x15_3+1))) else (none))))) else (none)) else (none)) else (none))))=some r:=H
       have A46:=zK A460
       clear A460
       replace H:=Option.bind_eq_some_iff.mp H
       obtain ⟨t199,A470,H⟩:=H
       replace H:((legateref02_turn.f (rd x14_3 4) 25).bind fun t200=>(if 0≤x15_3 then (if x15_3<(l0.length:Int) then (if x15_3<(x7_2.length:Int) then ((legateref02_turn.f (rd x14_3 0) 2).bind fun t203=>((legateref02_turn.f (rd x14_3 0) 13).bind fun t204=>((legateref02_turn.f (rd x14_3 0) 22).bind fun t205=>(if 3<(x14_3.length:Int) then (legateref02_Block.l1 k3 l0 x7_2 t183 (([Int.tmod (wrap64 ((Int.tmod (wrap64 ((wrap64 ((wrap64 ((wrap64 ((rd x14_3 7)+(Go.bits .xor .i64 (Go.bits .xor .i64 t198 t199) t200)))+(Go.bits .xor .i64 (Go.bits .and .i64 (rd x14_3 4) (rd x14_3 5)) (Go.bits .and .i64 (wrap64 (4294967295 - (rd x14_3 4))) (rd x14_3 6)))))+(rd l0 x15_3)))+(rd x7_2 x15_3))) 4294967296)+(Int.tmod (wrap64 ((Go.bits .xor .i64 (Go.bits .xor .i64 t203 t204) t205)+(Go.bits .xor .i64 (Go.bits .xor .i64 (Go.bits .and .i64 (rd x14_3 0) (rd x14_3 1)) (Go.bits .and .i64 (rd x14_3 0) (rd x14_3 2))) (Go.bits .and .i64 (rd x14_3 1) (rd x14_3 2))))) 4294967296))) 4294967296,rd x14_3 0,rd x14_3 1,rd x14_3 2,Int.tmod (wrap64 ((rd x14_3 3)+(Int.tmod (wrap64 ((wrap64 ((wrap64 ((wrap64 ((rd x14_3 7)+(Go.bits .xor .i64 (Go.bits .xor .i64 t198 t199) t200)))+(Go.bits .xor .i64 (Go.bits .and .i64 (rd x14_3 4) (rd x14_3 5)) (Go.bits .and .i64 (wrap64 (4294967295 - (rd x14_3 4))) (rd x14_3 6)))))+(rd l0 x15_3)))+(rd x7_2 x15_3))) 4294967296))) 4294967296,rd x14_3 4,rd x14_3 5,rd x14_3 6]:List Int)) (wrap64 (x15_3+1))) else (none))))) else (none)) else (none)) else (none)))=some r:=H
       have A47:=zK A470
       clear A470
       replace H:=Option.bind_eq_some_iff.mp H
       obtain ⟨t200,A480,H⟩:=H
       replace H:(if 0≤x15_3 then (if x15_3<(l0.length:Int) then (if x15_3<(x7_2.length:Int) then ((legateref02_turn.f (rd x14_3 0) 2).bind fun t203=>((legateref02_turn.f (rd x14_3 0) 13).bind fun t204=>((legateref02_turn.f (rd x14_3 0) 22).bind fun t205=>(if 3<(x14_3.length:Int) then (legateref02_Block.l1 k3 l0 x7_2 t183 (([Int.tmod (wrap64 ((Int.tmod (wrap64 ((wrap64 ((wrap64 ((wrap64 ((rd x14_3 7)+(Go.bits .xor .i64 (Go.bits .xor .i64 t198 t199) t200)))+(Go.bits .xor .i64 (Go.bits .and .i64 (rd x14_3 4) (rd x14_3 5)) (Go.bits .and .i64 (wrap64 (4294967295 - (rd x14_3 4))) (rd x14_3 6)))))+(rd l0 x15_3)))+(rd x7_2 x15_3))) 4294967296)+(Int.tmod (wrap64 ((Go.bits .xor .i64 (Go.bits .xor .i64 t203 t204) t205)+(Go.bits .xor .i64 (Go.bits .xor .i64 (Go.bits .and .i64 (rd x14_3 0) (rd x14_3 1)) (Go.bits .and .i64 (rd x14_3 0) (rd x14_3 2))) (Go.bits .and .i64 (rd x14_3 1) (rd x14_3 2))))) 4294967296))) 4294967296,rd x14_3 0,rd x14_3 1,rd x14_3 2,Int.tmod (wrap64 ((rd x14_3 3)+(Int.tmod (wrap64 ((wrap64 ((wrap64 ((wrap64 ((rd x14_3 7)+(Go.bits .xor .i64 (Go.bits .xor .i64 t198 t199) t200)))+(Go.bits .xor .i64 (Go.bits .and .i64 (rd x14_3 4) (rd x14_3 5)) (Go.bits .and .i64 (wrap64 (4294967295 - (rd x14_3 4))) (rd x14_3 6)))))+(rd l0 x15_3)))+(rd x7_2 x15_3))) 4294967296))) 4294967296,rd x14_3 4,rd x14_3 5,rd x14_3 6]:List Int)) (wrap64 (x15_3+1))) else (none))))) else (none)) else (none)) else (none))=some r:=H
       have A48:=zK A480
       clear A480
       by_cases c49:0≤x15_3
       case neg =>
        rw [if_neg c49] at H
        exact absurd H (by simp)
       rw [if_pos c49] at H
       have c49b0:decide (0≤x15_3)=true:=decide_eq_true c49
       clear c49
       by_cases c50:x15_3<(l0.length:Int)
       case neg =>
        rw [if_neg c50] at H
        exact absurd H (by simp)
       rw [if_pos c50] at H
       have c50b0:decide (x15_3<(l0.length:Int))=true:=decide_eq_true c50
       clear c50
       by_cases c51:x15_3<(x7_2.length:Int)
       case neg =>
        rw [if_neg c51] at H
        exact absurd H (by simp)
       rw [if_pos c51] at H
       have c51b0:decide (x15_3<(x7_2.length:Int))=true:=decide_eq_true c51
       clear c51
       replace H:=Option.bind_eq_some_iff.mp H
       obtain ⟨t203,A520,H⟩:=H
       replace H:((legateref02_turn.f (rd x14_3 0) 13).bind fun t204=>((legateref02_turn.f (rd x14_3 0) 22).bind fun t205=>(if 3<(x14_3.length:Int) then (legateref02_Block.l1 k3 l0 x7_2 t183 (([Int.tmod (wrap64 ((Int.tmod (wrap64 ((wrap64 ((wrap64 ((wrap64 ((rd x14_3 7)+(Go.bits .xor .i64 (Go.bits .xor .i64 t198 t199) t200)))+(Go.bits .xor .i64 (Go.bits .and .i64 (rd x14_3 4) (rd x14_3 5)) (Go.bits .and .i64 (wrap64 (4294967295 - (rd x14_3 4))) (rd x14_3 6)))))+(rd l0 x15_3)))+(rd x7_2 x15_3))) 4294967296)+(Int.tmod (wrap64 ((Go.bits .xor .i64 (Go.bits .xor .i64 t203 t204) t205)+(Go.bits .xor .i64 (Go.bits .xor .i64 (Go.bits .and .i64 (rd x14_3 0) (rd x14_3 1)) (Go.bits .and .i64 (rd x14_3 0) (rd x14_3 2))) (Go.bits .and .i64 (rd x14_3 1) (rd x14_3 2))))) 4294967296))) 4294967296,rd x14_3 0,rd x14_3 1,rd x14_3 2,Int.tmod (wrap64 ((rd x14_3 3)+(Int.tmod (wrap64 ((wrap64 ((wrap64 ((wrap64 ((rd x14_3 7)+(Go.bits .xor .i64 (Go.bits .xor .i64 t198 t199) t200)))+(Go.bits .xor .i64 (Go.bits .and .i64 (rd x14_3 4) (rd x14_3 5)) (Go.bits .and .i64 (wrap64 (4294967295 - (rd x14_3 4))) (rd x14_3 6)))))+(rd l0 x15_3)))+(rd x7_2 x15_3))) 4294967296))) 4294967296,rd x14_3 4,rd x14_3 5,rd x14_3 6]:List Int)) (wrap64 (x15_3+1))) else (none))))=some r:=H
       have A52:=zK A520
       clear A520
       replace H:=Option.bind_eq_some_iff.mp H
       obtain ⟨t204,A530,H⟩:=H
       replace H:((legateref02_turn.f (rd x14_3 0) 22).bind fun t205=>(if 3<(x14_3.length:Int) then (legateref02_Block.l1 k3 l0 x7_2 t183 (([Int.tmod (wrap64 ((Int.tmod (wrap64 ((wrap64 ((wrap64 ((wrap64 ((rd x14_3 7)+(Go.bits .xor .i64 (Go.bits .xor .i64 t198 t199) t200)))+(Go.bits .xor .i64 (Go.bits .and .i64 (rd x14_3 4) (rd x14_3 5)) (Go.bits .and .i64 (wrap64 (4294967295 - (rd x14_3 4))) (rd x14_3 6)))))+(rd l0 x15_3)))+(rd x7_2 x15_3))) 4294967296)+(Int.tmod (wrap64 ((Go.bits .xor .i64 (Go.bits .xor .i64 t203 t204) t205)+(Go.bits .xor .i64 (Go.bits .xor .i64 (Go.bits .and .i64 (rd x14_3 0) (rd x14_3 1)) (Go.bits .and .i64 (rd x14_3 0) (rd x14_3 2))) (Go.bits .and .i64 (rd x14_3 1) (rd x14_3 2))))) 4294967296))) 4294967296,rd x14_3 0,rd x14_3 1,rd x14_3 2,Int.tmod (wrap64 ((rd x14_3 3)+(Int.tmod (wrap64 ((wrap64 ((wrap64 ((wrap64 ((rd x14_3 7)+(Go.bits .xor .i64 (Go.bits .xor .i64 t198 t199) t200)))+(Go.bits .xor .i64 (Go.bits .and .i64 (rd x14_3 4) (rd x14_3 5)) (Go.bits .and .i64 (wrap64 (4294967295 - (rd x14_3 4))) (rd x14_3 6)))))+(rd l0 x15_3)))+(rd x7_2 x15_3))) 4294967296))) 4294967296,rd x14_3 4,rd x14_3 5,rd x14_3 6]:List Int)) (wrap64 (x15_3+1))) else (none)))=some r:=H
       have A53:=zK A530
       clear A530
       replace H:=Option.bind_eq_some_iff.mp H
       obtain ⟨t205,A540,H⟩:=H
       replace H:(if 3<(x14_3.length:Int) then (legateref02_Block.l1 k3 l0 x7_2 t183 (([Int.tmod (wrap64 ((Int.tmod (wrap64 ((wrap64 ((wrap64 ((wrap64 ((rd x14_3 7)+(Go.bits .xor .i64 (Go.bits .xor .i64 t198 t199) t200)))+(Go.bits .xor .i64 (Go.bits .and .i64 (rd x14_3 4) (rd x14_3 5)) (Go.bits .and .i64 (wrap64 (4294967295 - (rd x14_3 4))) (rd x14_3 6)))))+(rd l0 x15_3)))+(rd x7_2 x15_3))) 4294967296)+(Int.tmod (wrap64 ((Go.bits .xor .i64 (Go.bits .xor .i64 t203 t204) t205)+(Go.bits .xor .i64 (Go.bits .xor .i64 (Go.bits .and .i64 (rd x14_3 0) (rd x14_3 1)) (Go.bits .and .i64 (rd x14_3 0) (rd x14_3 2))) (Go.bits .and .i64 (rd x14_3 1) (rd x14_3 2))))) 4294967296))) 4294967296,rd x14_3 0,rd x14_3 1,rd x14_3 2,Int.tmod (wrap64 ((rd x14_3 3)+(Int.tmod (wrap64 ((wrap64 ((wrap64 ((wrap64 ((rd x14_3 7)+(Go.bits .xor .i64 (Go.bits .xor .i64 t198 t199) t200)))+(Go.bits .xor .i64 (Go.bits .and .i64 (rd x14_3 4) (rd x14_3 5)) (Go.bits .and .i64 (wrap64 (4294967295 - (rd x14_3 4))) (rd x14_3 6)))))+(rd l0 x15_3)))+(rd x7_2 x15_3))) 4294967296))) 4294967296,rd x14_3 4,rd x14_3 5,rd x14_3 6]:List Int)) (wrap64 (x15_3+1))) else (none))=some r:=H
       have A54:=zK A540
       clear A540
       by_cases c55:3<(x14_3.length:Int)
       case neg =>
        rw [if_neg c55] at H
        exact absurd H (by simp)
       rw [if_pos c55] at H
       have c55b0:decide (3<(x14_3.length:Int))=true:=decide_eq_true c55
       have c55b1:decide (3<x14_3.length)=true:=decide_eq_true (by omega)
       clear c55
       obtain ⟨y213,hy213⟩:∃ y_:List Int,y_=(([Int.tmod (wrap64 ((Int.tmod (wrap64 ((wrap64 ((wrap64 ((wrap64 ((rd x14_3 7)+(Go.bits .xor .i64 (Go.bits .xor .i64 t198 t199) t200)))+(Go.bits .xor .i64 (Go.bits .and .i64 (rd x14_3 4) (rd x14_3 5)) (Go.bits .and .i64 (wrap64 (4294967295 - (rd x14_3 4))) (rd x14_3 6)))))+(rd l0 x15_3)))+(rd x7_2 x15_3))) 4294967296)+(Int.tmod (wrap64 ((Go.bits .xor .i64 (Go.bits .xor .i64 t203 t204) t205)+(Go.bits .xor .i64 (Go.bits .xor .i64 (Go.bits .and .i64 (rd x14_3 0) (rd x14_3 1)) (Go.bits .and .i64 (rd x14_3 0) (rd x14_3 2))) (Go.bits .and .i64 (rd x14_3 1) (rd x14_3 2))))) 4294967296))) 4294967296,rd x14_3 0,rd x14_3 1,rd x14_3 2,Int.tmod (wrap64 ((rd x14_3 3)+(Int.tmod (wrap64 ((wrap64 ((wrap64 ((wrap64 ((rd x14_3 7)+(Go.bits .xor .i64 (Go.bits .xor .i64 t198 t199) t200)))+(Go.bits .xor .i64 (Go.bits .and .i64 (rd x14_3 4) (rd x14_3 5)) (Go.bits .and .i64 (wrap64 (4294967295 - (rd x14_3 4))) (rd x14_3 6)))))+(rd l0 x15_3)))+(rd x7_2 x15_3))) 4294967296))) 4294967296,rd x14_3 4,rd x14_3 5,rd x14_3 6]:List Int)):=⟨_,rfl⟩
       replace H:(legateref02_Block.l1 k3 l0 x7_2 t183 y213 (wrap64 (x15_3+1)))=some r:=by first|(rw [hy213]; with_reducible exact H)|(have H2_:=(Option.bind_some _ _).symm.trans H; rw [hy213]; with_reducible exact H2_)|(have H2_:=(Option.bind_some _ _).symm.trans H; with_reducible exact H2_)|with_reducible exact H|(rw [hy213]; exact H)|exact H
       have Ny213:=zK hy213
       clear hy213
       have H':=zK H
       clear H
       obtain ⟨Ao56,co56,eo56⟩:=Kd.R_slice HO_14.out
       subst eo56
       have p189:0≤(4:Int):=(by omega)
       have q189:4<(x14_3.length:Int):=of_decide_eq_true (by first|(with_reducible assumption)|assumption)
       obtain ⟨ad189,e189,hx189_0⟩:=Kd.at_int (Kd.R_reads' HO_14.out).2.2 4 p189 q189
       cases e189
       (try simp only [show (4:Int).toNat=4 from rfl,Nat.reduceMul,Nat.reduceEqDiff,Go.Addr.add,↓reduceIte] at hx189_0)
       have qi189:(4<x14_3.length)=True:=eq_true (by omega)
       (try rw [show ((4:Int)).toNat=4 from rfl] at hx189_0)
       replace p189:=eq_true p189
       replace q189:=eq_true q189
       have p190:0≤(0:Int):=(by omega)
       have q190:0<(x14_3.length:Int):=of_decide_eq_true (by first|(with_reducible assumption)|assumption)
       obtain ⟨ad190,e190,hx190_0⟩:=Kd.at_int (Kd.R_reads' HO_14.out).2.2 0 p190 q190
       obtain rfl:ad189=ad190:=(by injection e190)
       have qi190:(0<x14_3.length)=True:=eq_true (by omega)
       (try rw [show ((0:Int)).toNat=0 from rfl] at hx190_0)
       (try rw [Addr.add_zero'] at hx190_0)
       replace p190:=eq_true p190
       replace q190:=eq_true q190
       try go_wp2
       have n0_:=zK (Kd.R_drew HO_7.out)
       have n1_:=zK (Kd.R_drew HO_13.out)
       have n2_:=zK (Kd.R_drew HO_14.out)
       have n3_:=zK (zD HB.out)
       clear HO_7
       clear HO_13
       clear HO_14
       clear HB
       have HO_7:=n0_
       have HO_13:=n1_
       have HO_14:=n2_
       have HB:=n3_
       clear n0_ n1_ n2_ n3_
       have p191:0≤(5:Int):=(by omega)
       have q191:5<(x14_3.length:Int):=of_decide_eq_true (by first|(with_reducible assumption)|assumption)
       obtain ⟨ad191,e191,hx191_0⟩:=Kd.at_int (Kd.R_reads' HO_14.out).2.2 5 p191 q191
       obtain rfl:ad189=ad191:=(by injection e191)
       (try simp only [show (5:Int).toNat=5 from rfl,Nat.reduceMul,Nat.reduceEqDiff,Go.Addr.add,↓reduceIte] at hx191_0)
       have qi191:(5<x14_3.length)=True:=eq_true (by omega)
       (try rw [show ((5:Int)).toNat=5 from rfl] at hx191_0)
       replace p191:=eq_true p191
       replace q191:=eq_true q191
       have p192:0≤(6:Int):=(by omega)
       have q192:6<(x14_3.length:Int):=of_decide_eq_true (by first|(with_reducible assumption)|assumption)
       obtain ⟨ad192,e192,hx192_0⟩:=Kd.at_int (Kd.R_reads' HO_14.out).2.2 6 p192 q192
       obtain rfl:ad189=ad192:=(by injection e192)
       (try simp only [show (6:Int).toNat=6 from rfl,Nat.reduceMul,Nat.reduceEqDiff,Go.Addr.add,↓reduceIte] at hx192_0)
       have qi192:(6<x14_3.length)=True:=eq_true (by omega)
       (try rw [show ((6:Int)).toNat=6 from rfl] at hx192_0)
       replace p192:=eq_true p192
       replace q192:=eq_true q192
       refine start_ (n:=13) (S:=fun w'=>w'.cell? ⟨ad189.block,ad189.off+5,none⟩=some (.int .i64 (rd x14_3 5))∧w'.cell? ⟨ad189.block,ad189.off+6,none⟩=some (.int .i64 (rd x14_3 6))) (ds:=[]) #[G,G,G,G,G,G,G,G,G,G,G,G,G] (by kernel_rfl) rfl rfl ⟨hx191_0,hx192_0⟩ (fun hHeld=>?_); refine with_tabW legateref02_Block.tab19 legateref02_Block.bits19 (fun HT_ HW_=>?_)
       generalize wr.drew=w57 at HO_7 HO_13 HO_14 HB hx191_0 hx192_0 hHeld ⊢
       refine zq 0 (some 96) ?_ #[O,G,G,G,G,G,G,G,G,G,G,G,G] rfl rfl (any_of HT_.out (by kernel_rfl)) (fun _ _ _ h=>h) (Or.inl ⟨by rfl,?_⟩) ?_ ?_ ?_
       rotate_left;(intro w';go_simp;with_reducible rfl);rotate_left;(simp only [Act.put,zp];rfl)
       refine zq 1 (some 97) ?_ #[O,O,G,G,G,G,G,G,G,G,G,G,G] rfl rfl (any_of HT_.out (by kernel_rfl)) (fun _ _ _ h=>h) (Or.inl ⟨by rfl,?_⟩) ?_ ?_ ?_
       rotate_left;(intro w';go_simp;with_reducible rfl);rotate_left;(simp only [Act.put,zp];rfl)
       refine zq 2 (some 98) ?_ #[O,O,O,G,G,G,G,G,G,G,G,G,G] rfl rfl (any_of HT_.out (by kernel_rfl)) (fun _ _ _ h=>h) (Or.inl ⟨by rfl,?_⟩) ?_ ?_ ?_
       rotate_left;(intro w';go_simp;with_reducible rfl);rotate_left;(simp only [Act.put,zp];rfl)
       refine zq 5 (some 101) ?_ #[O,O,O,G,G,O,G,G,G,G,G,G,G] rfl rfl (any_of HT_.out (by kernel_rfl)) (fun _ _ _ h=>h) (Or.inl ⟨by rfl,?_⟩) ?_ ?_ ?_
       rotate_left;(intro w';go_simp;with_reducible rfl);rotate_left;(simp only [Act.put,zp];rfl)
       refine zq 6 (some 102) ?_ #[O,O,O,G,G,O,O,G,G,G,G,G,G] rfl rfl (any_of HT_.out (by kernel_rfl)) (fun _ _ _ h=>h) (Or.inl ⟨by rfl,?_⟩) ?_ ?_ ?_
       rotate_left;(intro w';go_simp;with_reducible rfl);rotate_left;(simp only [Act.put,zp];rfl)
       refine zq 7 (some 103) ?_ #[O,O,O,G,G,O,O,O,G,G,G,G,G] rfl rfl (any_of HT_.out (by kernel_rfl)) (fun _ _ _ h=>h) (Or.inl ⟨by rfl,?_⟩) ?_ ?_ ?_
       rotate_left;(intro w';go_simp;with_reducible rfl);rotate_left;(simp only [Act.put,zp];rfl)
       refine zq 8 (some 104) ?_ #[O,O,O,G,G,O,O,O,O,G,G,G,G] rfl rfl (any_of HT_.out (by kernel_rfl)) (fun _ _ _ h=>h) (Or.inl ⟨by rfl,?_⟩) ?_ ?_ ?_
       rotate_left;(intro w';go_simp;with_reducible rfl);rotate_left;(simp only [Act.put,zp];rfl)
       refine take_ (i:=3) (N:=some 99) (v:=?_) (a':=?_) #[O,O,O,O,G,O,O,O,O,G,G,G,G] rfl rfl (take_ofW HT_.out HW_.out (by kernel_rfl)) (fun _ _ _ h=>h) (Or.inl ⟨by rfl,?_⟩) hHeld ?_ ?_
       rotate_left
       ·rintro w' ⟨s0,s1⟩
        go_simp
        with_reducible rfl
       rotate_left
       ·simp only [Act.put,zp]
        rfl
       refine zq 4 (some 100) ?_ #[O,O,O,O,O,O,O,O,O,G,G,G,G] rfl rfl (any_of HT_.out (by kernel_rfl)) (fun _ _ _ h=>h) (Or.inl ⟨by rfl,?_⟩) ?_ ?_ ?_
       rotate_left;(intro w';go_simp;with_reducible rfl);rotate_left;(simp only [Act.put,zp];rfl)
       refine take_ (i:=9) (N:=some 105) (v:=?_) (a':=?_) #[O,O,O,O,O,O,O,O,O,O,G,G,G] rfl rfl (take_ofW HT_.out HW_.out (by kernel_rfl)) (fun _ _ _ h=>h) (Or.inl ⟨by rfl,?_⟩) hHeld ?_ ?_
       rotate_left
       ·rintro w' ⟨s0,s1⟩
        go_simp
        with_reducible rfl
       rotate_left
       ·simp only [Act.put,zp]
        rfl
       refine zq 10 (some 106) ?_ #[O,O,O,O,O,O,O,O,O,O,O,G,G] rfl rfl (any_of HT_.out (by kernel_rfl)) (fun _ _ _ h=>h) (Or.inl ⟨by rfl,?_⟩) ?_ ?_ ?_
       rotate_left;(intro w';go_simp;with_reducible rfl);rotate_left;(simp only [Act.put,zp];rfl)
       refine zq 11 (some 107) ?_ #[O,O,O,O,O,O,O,O,O,O,O,O,G] rfl rfl (any_of HT_.out (by kernel_rfl)) (fun _ _ _ h=>h) (Or.inl ⟨by rfl,?_⟩) ?_ ?_ ?_
       rotate_left;(intro w';go_simp;with_reducible rfl);rotate_left;(simp only [Act.put,zp];rfl)
       refine zq 12 (some 18) ?_ #[O,O,O,O,O,O,O,O,O,O,O,O,O] rfl rfl (any_of HT_.out (by kernel_rfl)) (fun _ _ _ h=>h) (Or.inl ⟨by rfl,?_⟩) ?_ ?_ ?_
       rotate_left;(intro w';go_simp;with_reducible rfl);rotate_left;(simp only [Act.put,zp];rfl)
       refine done_ (done_of HT_.out (by kernel_rfl)) ?_
       try go_wp2
       have n0_:=zK (Kd.R_drew HO_7.out)
       have n1_:=zK (Kd.R_drew HO_13.out)
       have n2_:=zK (Kd.R_drew HO_14.out)
       have n3_:=zK (zD HB.out)
       clear HO_7
       clear HO_13
       clear HO_14
       clear HB
       have HO_7:=n0_
       have HO_13:=n1_
       have HO_14:=n2_
       have HB:=n3_
       clear n0_ n1_ n2_ n3_
       have p193:0≤(1:Int):=(by omega)
       have q193:1<(x14_3.length:Int):=of_decide_eq_true (by first|(with_reducible assumption)|assumption)
       obtain ⟨ad193,e193,hx193_0⟩:=Kd.at_int (Kd.R_reads' HO_14.out).2.2 1 p193 q193
       obtain rfl:ad189=ad193:=(by injection e193)
       (try simp only [show (1:Int).toNat=1 from rfl,Nat.reduceMul,Nat.reduceEqDiff,Go.Addr.add,↓reduceIte] at hx193_0)
       have qi193:(1<x14_3.length)=True:=eq_true (by omega)
       (try rw [show ((1:Int)).toNat=1 from rfl] at hx193_0)
       replace p193:=eq_true p193
       replace q193:=eq_true q193
       have p194:0≤(2:Int):=(by omega)
       have q194:2<(x14_3.length:Int):=of_decide_eq_true (by first|(with_reducible assumption)|assumption)
       obtain ⟨ad194,e194,hx194_0⟩:=Kd.at_int (Kd.R_reads' HO_14.out).2.2 2 p194 q194
       obtain rfl:ad189=ad194:=(by injection e194)
       (try simp only [show (2:Int).toNat=2 from rfl,Nat.reduceMul,Nat.reduceEqDiff,Go.Addr.add,↓reduceIte] at hx194_0)
       have qi194:(2<x14_3.length)=True:=eq_true (by omega)
       (try rw [show ((2:Int)).toNat=2 from rfl] at hx194_0)
       replace p194:=eq_true p194
       replace q194:=eq_true q194
       have p195:0≤(1:Int):=(by omega)
       have q195:1<(x14_3.length:Int):=of_decide_eq_true (by first|(with_reducible assumption)|assumption)
       obtain ⟨ad195,e195,hx195_0⟩:=Kd.at_int (Kd.R_reads' HO_14.out).2.2 1 p195 q195
       obtain rfl:ad189=ad195:=(by injection e195)
       (try simp only [show (1:Int).toNat=1 from rfl,Nat.reduceMul,Nat.reduceEqDiff,Go.Addr.add,↓reduceIte] at hx195_0)
       have qi195:(1<x14_3.length)=True:=eq_true (by omega)
       (try rw [show ((1:Int)).toNat=1 from rfl] at hx195_0)
       replace p195:=eq_true p195
       replace q195:=eq_true q195
       have p196:0≤(2:Int):=(by omega)
       have q196:2<(x14_3.length:Int):=of_decide_eq_true (by first|(with_reducible assumption)|assumption)
       obtain ⟨ad196,e196,hx196_0⟩:=Kd.at_int (Kd.R_reads' HO_14.out).2.2 2 p196 q196
       obtain rfl:ad189=ad196:=(by injection e196)
       (try simp only [show (2:Int).toNat=2 from rfl,Nat.reduceMul,Nat.reduceEqDiff,Go.Addr.add,↓reduceIte] at hx196_0)
       have qi196:(2<x14_3.length)=True:=eq_true (by omega)
       (try rw [show ((2:Int)).toNat=2 from rfl] at hx196_0)
       replace p196:=eq_true p196
       replace q196:=eq_true q196
       refine start_ (n:=20) (S:=fun w'=>w'.cell? ⟨ad189.block,ad189.off+1,none⟩=some (.int .i64 (rd x14_3 1))∧w'.cell? ⟨ad189.block,ad189.off+2,none⟩=some (.int .i64 (rd x14_3 2))∧w'.cell? ⟨ad189.block,ad189.off+1,none⟩=some (.int .i64 (rd x14_3 1))∧w'.cell? ⟨ad189.block,ad189.off+2,none⟩=some (.int .i64 (rd x14_3 2))) (ds:=[]) #[G,G,G,G,G,G,G,G,G,G,G,G,G,G,G,G,G,G,G,G] (by kernel_rfl) rfl rfl ⟨hx193_0,hx194_0,hx195_0,hx196_0⟩ (fun hHeld=>?_); refine with_tabW legateref02_Block.tab20 legateref02_Block.bits20 (fun HT_ HW_=>?_)
       generalize w57.drew=w58 at HO_7 HO_13 HO_14 HB hx193_0 hx194_0 hx195_0 hx196_0 hHeld ⊢
       refine zq 0 (some 108) ?_ #[O,G,G,G,G,G,G,G,G,G,G,G,G,G,G,G,G,G,G,G] rfl rfl (any_of HT_.out (by kernel_rfl)) (fun _ _ _ h=>h) (Or.inl ⟨by rfl,?_⟩) ?_ ?_ ?_
       rotate_left;(intro w';go_simp;with_reducible rfl);rotate_left;(simp only [Act.put,zp];rfl)
       refine zq 1 (some 109) ?_ #[O,O,G,G,G,G,G,G,G,G,G,G,G,G,G,G,G,G,G,G] rfl rfl (any_of HT_.out (by kernel_rfl)) (fun _ _ _ h=>h) (Or.inl ⟨by rfl,?_⟩) ?_ ?_ ?_
       rotate_left;(intro w';go_simp;with_reducible rfl);rotate_left;(simp only [Act.put,zp];rfl)
       refine zq 2 (some 110) ?_ #[O,O,O,G,G,G,G,G,G,G,G,G,G,G,G,G,G,G,G,G] rfl rfl (any_of HT_.out (by kernel_rfl)) (fun _ _ _ h=>h) (Or.inl ⟨by rfl,?_⟩) ?_ ?_ ?_
       rotate_left;(intro w';go_simp;with_reducible rfl);rotate_left;(simp only [Act.put,zp];rfl)
       refine zq 5 (some 113) ?_ #[O,O,O,G,G,O,G,G,G,G,G,G,G,G,G,G,G,G,G,G] rfl rfl (any_of HT_.out (by kernel_rfl)) (fun _ _ _ h=>h) (Or.inl ⟨by rfl,?_⟩) ?_ ?_ ?_
       rotate_left;(intro w';go_simp;with_reducible rfl);rotate_left;(simp only [Act.put,zp];rfl)
       refine zq 6 (some 114) ?_ #[O,O,O,G,G,O,O,G,G,G,G,G,G,G,G,G,G,G,G,G] rfl rfl (any_of HT_.out (by kernel_rfl)) (fun _ _ _ h=>h) (Or.inl ⟨by rfl,?_⟩) ?_ ?_ ?_
       rotate_left;(intro w';go_simp;with_reducible rfl);rotate_left;(simp only [Act.put,zp];rfl)
       refine zq 7 (some 115) ?_ #[O,O,O,G,G,O,O,O,G,G,G,G,G,G,G,G,G,G,G,G] rfl rfl (any_of HT_.out (by kernel_rfl)) (fun _ _ _ h=>h) (Or.inl ⟨by rfl,?_⟩) ?_ ?_ ?_
       rotate_left;(intro w';go_simp;with_reducible rfl);rotate_left;(simp only [Act.put,zp];rfl)
       refine zq 11 (some 119) ?_ #[O,O,O,G,G,O,O,O,G,G,G,O,G,G,G,G,G,G,G,G] rfl rfl (any_of HT_.out (by kernel_rfl)) (fun _ _ _ h=>h) (Or.inl ⟨by rfl,?_⟩) ?_ ?_ ?_
       rotate_left;(intro w';go_simp;with_reducible rfl);rotate_left;(simp only [Act.put,zp];rfl)
       refine zq 12 (some 120) ?_ #[O,O,O,G,G,O,O,O,G,G,G,O,O,G,G,G,G,G,G,G] rfl rfl (any_of HT_.out (by kernel_rfl)) (fun _ _ _ h=>h) (Or.inl ⟨by rfl,?_⟩) ?_ ?_ ?_
       rotate_left;(intro w';go_simp;with_reducible rfl);rotate_left;(simp only [Act.put,zp];rfl)
       refine zq 14 (some 122) ?_ #[O,O,O,G,G,O,O,O,G,G,G,O,O,G,O,G,G,G,G,G] rfl rfl (any_of HT_.out (by kernel_rfl)) (fun _ _ _ h=>h) (Or.inl ⟨by rfl,?_⟩) ?_ ?_ ?_
       rotate_left;(intro w';go_simp;with_reducible rfl);rotate_left;(simp only [Act.put,zp];rfl)
       refine zq 15 (some 123) ?_ #[O,O,O,G,G,O,O,O,G,G,G,O,O,G,O,O,G,G,G,G] rfl rfl (any_of HT_.out (by kernel_rfl)) (fun _ _ _ h=>h) (Or.inl ⟨by rfl,?_⟩) ?_ ?_ ?_
       rotate_left;(intro w';go_simp;with_reducible rfl);rotate_left;(simp only [Act.put,zp];rfl)
       refine take_ (i:=3) (N:=some 111) (v:=?_) (a':=?_) #[O,O,O,O,G,O,O,O,G,G,G,O,O,G,O,O,G,G,G,G] rfl rfl (take_ofW HT_.out HW_.out (by kernel_rfl)) (fun _ _ _ h=>h) (Or.inl ⟨by rfl,?_⟩) hHeld ?_ ?_
       rotate_left
       ·rintro w' ⟨s0,s1,s2,s3⟩
        go_simp
        with_reducible rfl
       rotate_left
       ·simp only [Act.put,zp]
        rfl
       refine zq 4 (some 112) ?_ #[O,O,O,O,O,O,O,O,G,G,G,O,O,G,O,O,G,G,G,G] rfl rfl (any_of HT_.out (by kernel_rfl)) (fun _ _ _ h=>h) (Or.inl ⟨by rfl,?_⟩) ?_ ?_ ?_
       rotate_left;(intro w';go_simp;with_reducible rfl);rotate_left;(simp only [Act.put,zp];rfl)
       refine take_ (i:=8) (N:=some 116) (v:=?_) (a':=?_) #[O,O,O,O,O,O,O,O,O,G,G,O,O,G,O,O,G,G,G,G] rfl rfl (take_ofW HT_.out HW_.out (by kernel_rfl)) (fun _ _ _ h=>h) (Or.inl ⟨by rfl,?_⟩) hHeld ?_ ?_
       rotate_left
       ·rintro w' ⟨s0,s1,s2,s3⟩
        go_simp
        with_reducible rfl
       rotate_left
       ·simp only [Act.put,zp]
        rfl
       refine zq 9 (some 117) ?_ #[O,O,O,O,O,O,O,O,O,O,G,O,O,G,O,O,G,G,G,G] rfl rfl (any_of HT_.out (by kernel_rfl)) (fun _ _ _ h=>h) (Or.inl ⟨by rfl,?_⟩) ?_ ?_ ?_
       rotate_left;(intro w';go_simp;with_reducible rfl);rotate_left;(simp only [Act.put,zp];rfl)
       refine zq 10 (some 118) ?_ #[O,O,O,O,O,O,O,O,O,O,O,O,O,G,O,O,G,G,G,G] rfl rfl (any_of HT_.out (by kernel_rfl)) (fun _ _ _ h=>h) (Or.inl ⟨by rfl,?_⟩) ?_ ?_ ?_
       rotate_left;(intro w';go_simp;with_reducible rfl);rotate_left;(simp only [Act.put,zp];rfl)
       refine take_ (i:=13) (N:=some 121) (v:=?_) (a':=?_) #[O,O,O,O,O,O,O,O,O,O,O,O,O,O,O,O,G,G,G,G] rfl rfl (take_ofW HT_.out HW_.out (by kernel_rfl)) (fun _ _ _ h=>h) (Or.inl ⟨by rfl,?_⟩) hHeld ?_ ?_
       rotate_left
       ·rintro w' ⟨s0,s1,s2,s3⟩
        go_simp
        with_reducible rfl
       rotate_left
       ·simp only [Act.put,zp]
        rfl
       refine take_ (i:=16) (N:=some 124) (v:=?_) (a':=?_) #[O,O,O,O,O,O,O,O,O,O,O,O,O,O,O,O,O,G,G,G] rfl rfl (take_ofW HT_.out HW_.out (by kernel_rfl)) (fun _ _ _ h=>h) (Or.inl ⟨by rfl,?_⟩) hHeld ?_ ?_
       rotate_left
       ·rintro w' ⟨s0,s1,s2,s3⟩
        go_simp
        with_reducible rfl
       rotate_left
       ·simp only [Act.put,zp]
        rfl
       refine zq 17 (some 125) ?_ #[O,O,O,O,O,O,O,O,O,O,O,O,O,O,O,O,O,O,G,G] rfl rfl (any_of HT_.out (by kernel_rfl)) (fun _ _ _ h=>h) (Or.inl ⟨by rfl,?_⟩) ?_ ?_ ?_
       rotate_left;(intro w';go_simp;with_reducible rfl);rotate_left;(simp only [Act.put,zp];rfl)
       refine zq 18 (some 126) ?_ #[O,O,O,O,O,O,O,O,O,O,O,O,O,O,O,O,O,O,O,G] rfl rfl (any_of HT_.out (by kernel_rfl)) (fun _ _ _ h=>h) (Or.inl ⟨by rfl,?_⟩) ?_ ?_ ?_
       rotate_left;(intro w';go_simp;with_reducible rfl);rotate_left;(simp only [Act.put,zp];rfl)
       refine zq 19 (some 19) ?_ #[O,O,O,O,O,O,O,O,O,O,O,O,O,O,O,O,O,O,O,O] rfl rfl (any_of HT_.out (by kernel_rfl)) (fun _ _ _ h=>h) (Or.inl ⟨by rfl,?_⟩) ?_ ?_ ?_
       rotate_left;(intro w';go_simp;with_reducible rfl);rotate_left;(simp only [Act.put,zp];rfl)
       refine done_ (done_of HT_.out (by kernel_rfl)) ?_
       try go_wp2
       have n0_:=zK (Kd.R_drew HO_7.out)
       have n1_:=zK (Kd.R_drew HO_13.out)
       have n2_:=zK (Kd.R_drew HO_14.out)
       have n3_:=zK (zD HB.out)
       clear HO_7
       clear HO_13
       clear HO_14
       clear HB
       have HO_7:=n0_
       have HO_13:=n1_
       have HO_14:=n2_
       have HB:=n3_
       clear n0_ n1_ n2_ n3_
       have p197:0≤(7:Int):=(by omega)
       have q197:7<(x14_3.length:Int):=of_decide_eq_true (by first|(with_reducible assumption)|assumption)
       obtain ⟨ad197,e197,hx197_0⟩:=Kd.at_int (Kd.R_reads' HO_14.out).2.2 7 p197 q197
       obtain rfl:ad189=ad197:=(by injection e197)
       (try simp only [show (7:Int).toNat=7 from rfl,Nat.reduceMul,Nat.reduceEqDiff,Go.Addr.add,↓reduceIte] at hx197_0)
       have qi197:(7<x14_3.length)=True:=eq_true (by omega)
       (try rw [show ((7:Int)).toNat=7 from rfl] at hx197_0)
       replace p197:=eq_true p197
       replace q197:=eq_true q197
       have p201:0≤(x15_3:Int):=of_decide_eq_true (by first|(with_reducible assumption)|assumption)
       have q201:x15_3<(l0.length:Int):=of_decide_eq_true (by first|(with_reducible assumption)|assumption)
       obtain ⟨ad201,e201,hx201_0⟩:=Kd.at_int HR0.out x15_3 p201 q201
       have hw201_0:=hx201_0
       cases e201
       replace hx201_0:=(HB.out.cell (World.block_lt_of_cell? w _ hx201_0)).trans hx201_0
       replace p201:=eq_true p201
       replace q201:=eq_true q201
       obtain ⟨Ao60,co60,eo60⟩:=Kd.R_slice HO_7.out
       (first|subst eo60|(injection eo60 with f1_ f2_ f3_; have f4_:=f1_.symm; have f5_:=f3_.symm; clear f1_ f2_ f3_; subst f4_; subst f5_))
       have p202:0≤(x15_3:Int):=of_decide_eq_true (by first|(with_reducible assumption)|assumption)
       have q202:x15_3<(x7_2.length:Int):=of_decide_eq_true (by first|(with_reducible assumption)|assumption)
       obtain ⟨ad202,e202,hx202_0⟩:=Kd.at_int (Kd.R_reads' HO_7.out).2.2 x15_3 p202 q202
       cases e202
       replace p202:=eq_true p202
       replace q202:=eq_true q202
       refine start_ (n:=26) (S:=fun w'=>w'.cell? ⟨ad189.block,ad189.off+7,none⟩=some (.int .i64 (rd x14_3 7))∧w'.cell? (ad201.add (x15_3).toNat)=some (.int .i64 (rd l0 x15_3))∧w'.cell? (ad202.add (x15_3).toNat)=some (.int .i64 (rd x7_2 x15_3))) (ds:=[]) #[G,G,G,G,G,G,G,G,G,G,G,G,G,G,G,G,G,G,G,G,G,G,G,G,G,G] (by kernel_rfl) rfl rfl ⟨hx197_0,((HB.out.cell (World.block_lt_of_cell? w _ hw201_0)).trans hw201_0),hx202_0⟩ (fun hHeld=>?_); refine with_tabW legateref02_Block.tab21 legateref02_Block.bits21 (fun HT_ HW_=>?_)
       generalize w58.drew=w59 at HO_7 HO_13 HO_14 HB hx197_0 hx201_0 hx202_0 hHeld ⊢
       refine zq 0 (some 127) ?_ #[O,G,G,G,G,G,G,G,G,G,G,G,G,G,G,G,G,G,G,G,G,G,G,G,G,G] rfl rfl (any_of HT_.out (by kernel_rfl)) (fun _ _ _ h=>h) (Or.inl ⟨by rfl,?_⟩) ?_ ?_ ?_
       rotate_left;(intro w';go_simp;with_reducible rfl);rotate_left;(simp only [Act.put,zp];rfl)
       refine zq 1 (some 128) ?_ #[O,O,G,G,G,G,G,G,G,G,G,G,G,G,G,G,G,G,G,G,G,G,G,G,G,G] rfl rfl (any_of HT_.out (by kernel_rfl)) (fun _ _ _ h=>h) (Or.inl ⟨by rfl,?_⟩) ?_ ?_ ?_
       rotate_left;(intro w';go_simp;with_reducible rfl);rotate_left;(simp only [Act.put,zp];rfl)
       refine zq 3 (some 130) ?_ #[O,O,G,O,G,G,G,G,G,G,G,G,G,G,G,G,G,G,G,G,G,G,G,G,G,G] rfl rfl (any_of HT_.out (by kernel_rfl)) (fun _ _ _ h=>h) (Or.inl ⟨by rfl,?_⟩) ?_ ?_ ?_
       rotate_left;(intro w';go_simp;with_reducible rfl);rotate_left;(simp only [Act.put,zp];rfl)
       refine zq 5 (some 132) ?_ #[O,O,G,O,G,O,G,G,G,G,G,G,G,G,G,G,G,G,G,G,G,G,G,G,G,G] rfl rfl (any_of HT_.out (by kernel_rfl)) (fun _ _ _ h=>h) (Or.inl ⟨by rfl,?_⟩) ?_ ?_ ?_
       rotate_left;(intro w';go_simp;with_reducible rfl);rotate_left;(simp only [Act.put,zp];rfl)
       refine zq 8 (some 135) ?_ #[O,O,G,O,G,O,G,G,O,G,G,G,G,G,G,G,G,G,G,G,G,G,G,G,G,G] rfl rfl (any_of HT_.out (by kernel_rfl)) (fun _ _ _ h=>h) (Or.inl ⟨by rfl,?_⟩) ?_ ?_ ?_
       rotate_left;(intro w';go_simp;with_reducible rfl);rotate_left;(simp only [Act.put,zp];rfl)
       refine zq 12 (some 139) ?_ #[O,O,G,O,G,O,G,G,O,G,G,G,O,G,G,G,G,G,G,G,G,G,G,G,G,G] rfl rfl (any_of HT_.out (by kernel_rfl)) (fun _ _ _ h=>h) (Or.inl ⟨by rfl,?_⟩) ?_ ?_ ?_
       rotate_left;(intro w';go_simp;with_reducible rfl);rotate_left;(simp only [Act.put,zp];rfl)
       refine zq 14 (some 141) ?_ #[O,O,G,O,G,O,G,G,O,G,G,G,O,G,O,G,G,G,G,G,G,G,G,G,G,G] rfl rfl (any_of HT_.out (by kernel_rfl)) (fun _ _ _ h=>h) (Or.inl ⟨by rfl,?_⟩) ?_ ?_ ?_
       rotate_left;(intro w';go_simp;with_reducible rfl);rotate_left;(simp only [Act.put,zp];rfl)
       refine zq 15 (some 142) ?_ #[O,O,G,O,G,O,G,G,O,G,G,G,O,G,O,O,G,G,G,G,G,G,G,G,G,G] rfl rfl (any_of HT_.out (by kernel_rfl)) (fun _ _ _ h=>h) (Or.inl ⟨by rfl,?_⟩) ?_ ?_ ?_
       rotate_left;(intro w';go_simp;with_reducible rfl);rotate_left;(simp only [Act.put,zp];rfl)
       refine zq 16 (some 143) ?_ #[O,O,G,O,G,O,G,G,O,G,G,G,O,G,O,O,O,G,G,G,G,G,G,G,G,G] rfl rfl (any_of HT_.out (by kernel_rfl)) (fun _ _ _ h=>h) (Or.inl ⟨by rfl,?_⟩) ?_ ?_ ?_
       rotate_left;(intro w';go_simp;with_reducible rfl);rotate_left;(simp only [Act.put,zp];rfl)
       refine zq 19 (some 146) ?_ #[O,O,G,O,G,O,G,G,O,G,G,G,O,G,O,O,O,G,G,O,G,G,G,G,G,G] rfl rfl (any_of HT_.out (by kernel_rfl)) (fun _ _ _ h=>h) (Or.inl ⟨by rfl,?_⟩) ?_ ?_ ?_
       rotate_left;(intro w';go_simp;with_reducible rfl);rotate_left;(simp only [Act.put,zp];rfl)
       refine zq 20 (some 147) ?_ #[O,O,G,O,G,O,G,G,O,G,G,G,O,G,O,O,O,G,G,O,O,G,G,G,G,G] rfl rfl (any_of HT_.out (by kernel_rfl)) (fun _ _ _ h=>h) (Or.inl ⟨by rfl,?_⟩) ?_ ?_ ?_
       rotate_left;(intro w';go_simp;with_reducible rfl);rotate_left;(simp only [Act.put,zp];rfl)
       refine zq 21 (some 148) ?_ #[O,O,G,O,G,O,G,G,O,G,G,G,O,G,O,O,O,G,G,O,O,O,G,G,G,G] rfl rfl (any_of HT_.out (by kernel_rfl)) (fun _ _ _ h=>h) (Or.inl ⟨by rfl,?_⟩) ?_ ?_ ?_
       rotate_left;(intro w';go_simp;with_reducible rfl);rotate_left;(simp only [Act.put,zp];rfl)
       refine take_ (i:=2) (N:=some 129) (v:=?_) (a':=?_) #[O,O,O,O,G,O,G,G,O,G,G,G,O,G,O,O,O,G,G,O,O,O,G,G,G,G] rfl rfl (take_ofW HT_.out HW_.out (by kernel_rfl)) (fun _ _ _ h=>h) (Or.inl ⟨by rfl,?_⟩) hHeld ?_ ?_
       rotate_left
       ·rintro w' ⟨s0,s1,s2⟩
        go_simp
        with_reducible rfl
       rotate_left
       ·simp only [Act.put,zp]
        rfl
       refine take_ (i:=17) (N:=some 144) (v:=?_) (a':=?_) #[O,O,O,O,G,O,G,G,O,G,G,G,O,G,O,O,O,O,G,O,O,O,G,G,G,G] rfl rfl (take_ofW HT_.out HW_.out (by kernel_rfl)) (fun _ _ _ h=>h) (Or.inl ⟨by rfl,?_⟩) hHeld ?_ ?_
       rotate_left
       ·rintro w' ⟨s0,s1,s2⟩
        go_simp
        with_reducible rfl
       rotate_left
       ·simp only [Act.put,zp]
        rfl
       refine take_ (i:=22) (N:=some 149) (v:=?_) (a':=?_) #[O,O,O,O,G,O,G,G,O,G,G,G,O,G,O,O,O,O,G,O,O,O,O,G,G,G] rfl rfl (take_ofW HT_.out HW_.out (by kernel_rfl)) (fun _ _ _ h=>h) (Or.inl ⟨by rfl,?_⟩) hHeld ?_ ?_
       rotate_left
       ·rintro w' ⟨s0,s1,s2⟩
        go_simp
        with_reducible rfl
       rotate_left
       ·simp only [Act.put,zp]
        rfl
       refine one_ (i:=4) (N:=some 131) #[O,O,O,O,O,O,G,G,O,G,G,G,O,G,O,O,O,O,G,O,O,O,O,G,G,G] rfl rfl (one_of HT_.out (by kernel_rfl)) (by decide) (fun K hK=>?_)
       refine goes_ Tryd.func61 (by kernel_rfl) rfl #[.int .i64 (rd x14_3 4),.int .i64 6] (by rfl) rfl rfl (by (try simp only [zm]); first|done|rfl|(simp only [zl]; rfl)) ?_
       with_reducible refine (legateref02_turn.calls (rd x14_3 4) 6 t198 _ A46.out).mono ?_
       rintro e w61 ⟨rfl,hb⟩
       have HS0_:=(hb.cell (World.block_lt_of_cell? _ _ (hHeld.1))).trans (hHeld.1)
       have HS2_:=(hb.cell (World.block_lt_of_cell? _ _ (hHeld.2.2))).trans (hHeld.2.2)
       refine ⟨_,rfl,?_⟩
       have n0_:=zK (Kd.R_below (by (with_reducible repeat (first|apply Kd.R_alloc|apply Kd.R_drewN|apply Kd.R_drew)); exact HO_7.out) hb)
       have n1_:=zK (Kd.R_below (by (with_reducible repeat (first|apply Kd.R_alloc|apply Kd.R_drewN|apply Kd.R_drew)); exact HO_13.out) hb)
       have n2_:=zK (Kd.R_below (by (with_reducible repeat (first|apply Kd.R_alloc|apply Kd.R_drewN|apply Kd.R_drew)); exact HO_14.out) hb)
       have n3_:=zK (below_step (by repeat (first|(with_reducible first|exact HB.out|apply zA|apply zN|apply zD)|exact HB.out)) hb)
       clear HO_7
       clear HO_13
       clear HO_14
       clear HB
       have HO_7:=n0_
       have HO_13:=n1_
       have HO_14:=n2_
       have HB:=n3_
       clear n0_ n1_ n2_ n3_
       (try clear hb)
       (try clear hb2)
       (try clear hk)
       (try clear hi)
       refine hK.out _ _ ⟨HS0_,((HB.out.cell (World.block_lt_of_cell? w _ hw201_0)).trans hw201_0),HS2_⟩ (fun hHeld=>?_)
       clear hK K
       refine norm_ (a':=?_) ?_ ?_
       rotate_left
       ·show Act.put _ (some 131) _=_
        simp only [Act.put,zp]
        rfl
       refine one_ (i:=6) (N:=some 133) #[O,O,O,O,O,O,O,G,O,G,G,G,O,G,O,O,O,O,G,O,O,O,O,G,G,G] rfl rfl (one_of HT_.out (by kernel_rfl)) (by decide) (fun K hK=>?_)
       refine goes_ Tryd.func61 (by kernel_rfl) rfl #[.int .i64 (rd x14_3 4),.int .i64 11] (by rfl) rfl rfl (by (try simp only [zm]); first|done|rfl|(simp only [zl]; rfl)) ?_
       with_reducible refine (legateref02_turn.calls (rd x14_3 4) 11 t199 _ A47.out).mono ?_
       rintro e w62 ⟨rfl,hb⟩
       have HS0_:=(hb.cell (World.block_lt_of_cell? _ _ (hHeld.1))).trans (hHeld.1)
       have HS2_:=(hb.cell (World.block_lt_of_cell? _ _ (hHeld.2.2))).trans (hHeld.2.2)
       refine ⟨_,rfl,?_⟩
       have n0_:=zK (Kd.R_below (by (with_reducible repeat (first|apply Kd.R_alloc|apply Kd.R_drewN|apply Kd.R_drew)); exact HO_7.out) hb)
       have n1_:=zK (Kd.R_below (by (with_reducible repeat (first|apply Kd.R_alloc|apply Kd.R_drewN|apply Kd.R_drew)); exact HO_13.out) hb)
       have n2_:=zK (Kd.R_below (by (with_reducible repeat (first|apply Kd.R_alloc|apply Kd.R_drewN|apply Kd.R_drew)); exact HO_14.out) hb)
       have n3_:=zK (below_step (by repeat (first|(with_reducible first|exact HB.out|apply zA|apply zN|apply zD)|exact HB.out)) hb)
       clear HO_7
       clear HO_13
       clear HO_14
       clear HB
       have HO_7:=n0_
       have HO_13:=n1_
       have HO_14:=n2_
       have HB:=n3_
       clear n0_ n1_ n2_ n3_
       (try clear hb)
       (try clear hb2)
       (try clear hk)
       (try clear hi)
       refine hK.out _ _ ⟨HS0_,((HB.out.cell (World.block_lt_of_cell? w _ hw201_0)).trans hw201_0),HS2_⟩ (fun hHeld=>?_)
       clear hK K
       refine norm_ (a':=?_) ?_ ?_
       rotate_left
       ·show Act.put _ (some 133) _=_
        simp only [Act.put,zp]
        rfl
       refine zq 7 (some 134) ?_ #[O,O,O,O,O,O,O,O,O,G,G,G,O,G,O,O,O,O,G,O,O,O,O,G,G,G] rfl rfl (any_of HT_.out (by kernel_rfl)) (fun _ _ _ h=>h) (Or.inl ⟨by rfl,?_⟩) ?_ ?_ ?_
       rotate_left;(intro w';go_simp;with_reducible rfl);rotate_left;(simp only [Act.put,zp];rfl)
       refine one_ (i:=9) (N:=some 136) #[O,O,O,O,O,O,O,O,O,O,G,G,O,G,O,O,O,O,G,O,O,O,O,G,G,G] rfl rfl (one_of HT_.out (by kernel_rfl)) (by decide) (fun K hK=>?_)
       refine goes_ Tryd.func61 (by kernel_rfl) rfl #[.int .i64 (rd x14_3 4),.int .i64 25] (by rfl) rfl rfl (by (try simp only [zm]); first|done|rfl|(simp only [zl]; rfl)) ?_
       with_reducible refine (legateref02_turn.calls (rd x14_3 4) 25 t200 _ A48.out).mono ?_
       rintro e w63 ⟨rfl,hb⟩
       have HS0_:=(hb.cell (World.block_lt_of_cell? _ _ (hHeld.1))).trans (hHeld.1)
       have HS2_:=(hb.cell (World.block_lt_of_cell? _ _ (hHeld.2.2))).trans (hHeld.2.2)
       refine ⟨_,rfl,?_⟩
       have n0_:=zK (Kd.R_below (by (with_reducible repeat (first|apply Kd.R_alloc|apply Kd.R_drewN|apply Kd.R_drew)); exact HO_7.out) hb)
       have n1_:=zK (Kd.R_below (by (with_reducible repeat (first|apply Kd.R_alloc|apply Kd.R_drewN|apply Kd.R_drew)); exact HO_13.out) hb)
       have n2_:=zK (Kd.R_below (by (with_reducible repeat (first|apply Kd.R_alloc|apply Kd.R_drewN|apply Kd.R_drew)); exact HO_14.out) hb)
       have n3_:=zK (below_step (by repeat (first|(with_reducible first|exact HB.out|apply zA|apply zN|apply zD)|exact HB.out)) hb)
       clear HO_7
       clear HO_13
       clear HO_14
       clear HB
       have HO_7:=n0_
       have HO_13:=n1_
       have HO_14:=n2_
       have HB:=n3_
       clear n0_ n1_ n2_ n3_
       (try clear hb)
       (try clear hb2)
       (try clear hk)
       (try clear hi)
       refine hK.out _ _ ⟨HS0_,((HB.out.cell (World.block_lt_of_cell? w _ hw201_0)).trans hw201_0),HS2_⟩ (fun hHeld=>?_)
       clear hK K
       refine norm_ (a':=?_) ?_ ?_
       rotate_left
       ·show Act.put _ (some 136) _=_
        simp only [Act.put,zp]
        rfl
       refine zq 10 (some 137) ?_ #[O,O,O,O,O,O,O,O,O,O,O,G,O,G,O,O,O,O,G,O,O,O,O,G,G,G] rfl rfl (any_of HT_.out (by kernel_rfl)) (fun _ _ _ h=>h) (Or.inl ⟨by rfl,?_⟩) ?_ ?_ ?_
       rotate_left;(intro w';go_simp;with_reducible rfl);rotate_left;(simp only [Act.put,zp];rfl)
       refine zq 11 (some 138) ?_ #[O,O,O,O,O,O,O,O,O,O,O,O,O,G,O,O,O,O,G,O,O,O,O,G,G,G] rfl rfl (any_of HT_.out (by kernel_rfl)) (fun _ _ _ h=>h) (Or.inl ⟨by rfl,?_⟩) ?_ ?_ ?_
       rotate_left;(intro w';go_simp;with_reducible rfl);rotate_left;(simp only [Act.put,zp];rfl)
       refine zq 13 (some 140) ?_ #[O,O,O,O,O,O,O,O,O,O,O,O,O,O,O,O,O,O,G,O,O,O,O,G,G,G] rfl rfl (any_of HT_.out (by kernel_rfl)) (fun _ _ _ h=>h) (Or.inl ⟨by rfl,?_⟩) ?_ ?_ ?_
       rotate_left;(intro w';go_simp;with_reducible rfl);rotate_left;(simp only [Act.put,zp];rfl)
       refine zq 18 (some 145) ?_ #[O,O,O,O,O,O,O,O,O,O,O,O,O,O,O,O,O,O,O,O,O,O,O,G,G,G] rfl rfl (any_of HT_.out (by kernel_rfl)) (fun _ _ _ h=>h) (Or.inl ⟨by rfl,?_⟩) ?_ ?_ ?_
       rotate_left;(intro w';go_simp;with_reducible rfl);rotate_left;(simp only [Act.put,zp];rfl)
       refine zq 23 (some 150) ?_ #[O,O,O,O,O,O,O,O,O,O,O,O,O,O,O,O,O,O,O,O,O,O,O,O,G,G] rfl rfl (any_of HT_.out (by kernel_rfl)) (fun _ _ _ h=>h) (Or.inl ⟨by rfl,?_⟩) ?_ ?_ ?_
       rotate_left;(intro w';go_simp;with_reducible rfl);rotate_left;(simp only [Act.put,zp];rfl)
       refine zq 24 (some 151) ?_ #[O,O,O,O,O,O,O,O,O,O,O,O,O,O,O,O,O,O,O,O,O,O,O,O,O,G] rfl rfl (any_of HT_.out (by kernel_rfl)) (fun _ _ _ h=>h) (Or.inl ⟨by rfl,?_⟩) ?_ ?_ ?_
       rotate_left;(intro w';go_simp;with_reducible rfl);rotate_left;(simp only [Act.put,zp];rfl)
       refine zq 25 (some 20) ?_ #[O,O,O,O,O,O,O,O,O,O,O,O,O,O,O,O,O,O,O,O,O,O,O,O,O,O] rfl rfl (any_of HT_.out (by kernel_rfl)) (fun _ _ _ h=>h) (Or.inl ⟨by rfl,?_⟩) ?_ ?_ ?_
       rotate_left;(intro w';go_simp;with_reducible rfl);rotate_left;(simp only [Act.put,zp];rfl)
       refine done_ (done_of HT_.out (by kernel_rfl)) ?_
       try go_wp2_with (first|((with_reducible refine gate_callee (f:=61) rfl ?_); refine goesL_ (some 153) rfl rfl Tryd.func61 (by kernel_rfl) rfl #[.int .i64 (rd x14_3 0),.int .i64 2] rfl (by (try simp only [zm]); first|done|rfl|(simp only [zl]; rfl)) ?_; (with_reducible refine (legateref02_turn.calls (rd x14_3 0) 2 t203 _ A52.out).mono ?_); rintro e w64 ⟨rfl,hb⟩; refine ⟨_,rfl,?_⟩; have n0_:=zK (Kd.R_below (by (with_reducible repeat (first|apply Kd.R_alloc|apply Kd.R_drewN|apply Kd.R_drew)); exact HO_7.out) hb); have n1_:=zK (Kd.R_below (by (with_reducible repeat (first|apply Kd.R_alloc|apply Kd.R_drewN|apply Kd.R_drew)); exact HO_13.out) hb); have n2_:=zK (Kd.R_below (by (with_reducible repeat (first|apply Kd.R_alloc|apply Kd.R_drewN|apply Kd.R_drew)); exact HO_14.out) hb); have n3_:=zK (below_step (by repeat (first|(with_reducible first|exact HB.out|apply zA|apply zN|apply zD)|exact HB.out)) hb); clear HO_7; clear HO_13; clear HO_14; clear HB; have HO_7:=n0_; have HO_13:=n1_; have HO_14:=n2_; have HB:=n3_; clear n0_ n1_ n2_ n3_; (try clear hb); (try clear hb2); (try clear hk); (try clear hi))|((with_reducible refine gate_callee (f:=61) rfl ?_); refine goesL_ (some 155) rfl rfl Tryd.func61 (by kernel_rfl) rfl #[.int .i64 (rd x14_3 0),.int .i64 13] rfl (by (try simp only [zm]); first|done|rfl|(simp only [zl]; rfl)) ?_; (with_reducible refine (legateref02_turn.calls (rd x14_3 0) 13 t204 _ A53.out).mono ?_); rintro e w65 ⟨rfl,hb⟩; refine ⟨_,rfl,?_⟩; have n0_:=zK (Kd.R_below (by (with_reducible repeat (first|apply Kd.R_alloc|apply Kd.R_drewN|apply Kd.R_drew)); exact HO_7.out) hb); have n1_:=zK (Kd.R_below (by (with_reducible repeat (first|apply Kd.R_alloc|apply Kd.R_drewN|apply Kd.R_drew)); exact HO_13.out) hb); have n2_:=zK (Kd.R_below (by (with_reducible repeat (first|apply Kd.R_alloc|apply Kd.R_drewN|apply Kd.R_drew)); exact HO_14.out) hb); have n3_:=zK (below_step (by repeat (first|(with_reducible first|exact HB.out|apply zA|apply zN|apply zD)|exact HB.out)) hb); clear HO_7; clear HO_13; clear HO_14; clear HB; have HO_7:=n0_; have HO_13:=n1_; have HO_14:=n2_; have HB:=n3_; clear n0_ n1_ n2_ n3_; (try clear hb); (try clear hb2); (try clear hk); (try clear hi))|((with_reducible refine gate_callee (f:=61) rfl ?_); refine goesL_ (some 158) rfl rfl Tryd.func61 (by kernel_rfl) rfl #[.int .i64 (rd x14_3 0),.int .i64 22] rfl (by (try simp only [zm]); first|done|rfl|(simp only [zl]; rfl)) ?_; (with_reducible refine (legateref02_turn.calls (rd x14_3 0) 22 t205 _ A54.out).mono ?_); rintro e w66 ⟨rfl,hb⟩; refine ⟨_,rfl,?_⟩; have n0_:=zK (Kd.R_below (by (with_reducible repeat (first|apply Kd.R_alloc|apply Kd.R_drewN|apply Kd.R_drew)); exact HO_7.out) hb); have n1_:=zK (Kd.R_below (by (with_reducible repeat (first|apply Kd.R_alloc|apply Kd.R_drewN|apply Kd.R_drew)); exact HO_13.out) hb); have n2_:=zK (Kd.R_below (by (with_reducible repeat (first|apply Kd.R_alloc|apply Kd.R_drewN|apply Kd.R_drew)); exact HO_14.out) hb); have n3_:=zK (below_step (by repeat (first|(with_reducible first|exact HB.out|apply zA|apply zN|apply zD)|exact HB.out)) hb); clear HO_7; clear HO_13; clear HO_14; clear HB; have HO_7:=n0_; have HO_13:=n1_; have HO_14:=n2_; have HB:=n3_; clear n0_ n1_ n2_ n3_; (try clear hb); (try clear hb2); (try clear hk); (try clear hi)))
       have n0_:=zK (Kd.R_drew HO_7.out)
       have n1_:=zK (Kd.R_drew HO_13.out)
       have n2_:=zK (Kd.R_drew HO_14.out)
       have n3_:=zK (zD HB.out)
       clear HO_7
       clear HO_13
       clear HO_14
       clear HB
       have HO_7:=n0_
       have HO_13:=n1_
       have HO_14:=n2_
       have HB:=n3_
       clear n0_ n1_ n2_ n3_
       have p206:0≤(0:Int):=(by omega)
       have q206:0<(x14_3.length:Int):=of_decide_eq_true (by first|(with_reducible assumption)|assumption)
       obtain ⟨ad206,e206,hx206_0⟩:=Kd.at_int (Kd.R_reads' HO_14.out).2.2 0 p206 q206
       obtain rfl:ad189=ad206:=(by injection e206)
       have qi206:(0<x14_3.length)=True:=eq_true (by omega)
       (try rw [show ((0:Int)).toNat=0 from rfl] at hx206_0)
       (try rw [Addr.add_zero'] at hx206_0)
       replace p206:=eq_true p206
       replace q206:=eq_true q206
       have p207:0≤(1:Int):=(by omega)
       have q207:1<(x14_3.length:Int):=of_decide_eq_true (by first|(with_reducible assumption)|assumption)
       obtain ⟨ad207,e207,hx207_0⟩:=Kd.at_int (Kd.R_reads' HO_14.out).2.2 1 p207 q207
       obtain rfl:ad189=ad207:=(by injection e207)
       (try simp only [show (1:Int).toNat=1 from rfl,Nat.reduceMul,Nat.reduceEqDiff,Go.Addr.add,↓reduceIte] at hx207_0)
       have qi207:(1<x14_3.length)=True:=eq_true (by omega)
       (try rw [show ((1:Int)).toNat=1 from rfl] at hx207_0)
       replace p207:=eq_true p207
       replace q207:=eq_true q207
       have p208:0≤(2:Int):=(by omega)
       have q208:2<(x14_3.length:Int):=of_decide_eq_true (by first|(with_reducible assumption)|assumption)
       obtain ⟨ad208,e208,hx208_0⟩:=Kd.at_int (Kd.R_reads' HO_14.out).2.2 2 p208 q208
       obtain rfl:ad189=ad208:=(by injection e208)
       (try simp only [show (2:Int).toNat=2 from rfl,Nat.reduceMul,Nat.reduceEqDiff,Go.Addr.add,↓reduceIte] at hx208_0)
       have qi208:(2<x14_3.length)=True:=eq_true (by omega)
       (try rw [show ((2:Int)).toNat=2 from rfl] at hx208_0)
       replace p208:=eq_true p208
       replace q208:=eq_true q208
       have p209:0≤(3:Int):=(by omega)
       have q209:3<(x14_3.length:Int):=of_decide_eq_true (by first|(with_reducible assumption)|assumption)
       obtain ⟨ad209,e209,hx209_0⟩:=Kd.at_int (Kd.R_reads' HO_14.out).2.2 3 p209 q209
       obtain rfl:ad189=ad209:=(by injection e209)
       (try simp only [show (3:Int).toNat=3 from rfl,Nat.reduceMul,Nat.reduceEqDiff,Go.Addr.add,↓reduceIte] at hx209_0)
       have qi209:(3<x14_3.length)=True:=eq_true (by omega)
       (try rw [show ((3:Int)).toNat=3 from rfl] at hx209_0)
       replace p209:=eq_true p209
       replace q209:=eq_true q209
       have p210:0≤(4:Int):=(by omega)
       have q210:4<(x14_3.length:Int):=of_decide_eq_true (by first|(with_reducible assumption)|assumption)
       obtain ⟨ad210,e210,hx210_0⟩:=Kd.at_int (Kd.R_reads' HO_14.out).2.2 4 p210 q210
       obtain rfl:ad189=ad210:=(by injection e210)
       (try simp only [show (4:Int).toNat=4 from rfl,Nat.reduceMul,Nat.reduceEqDiff,Go.Addr.add,↓reduceIte] at hx210_0)
       have qi210:(4<x14_3.length)=True:=eq_true (by omega)
       (try rw [show ((4:Int)).toNat=4 from rfl] at hx210_0)
       replace p210:=eq_true p210
       replace q210:=eq_true q210
       have p211:0≤(5:Int):=(by omega)
       have q211:5<(x14_3.length:Int):=of_decide_eq_true (by first|(with_reducible assumption)|assumption)
       obtain ⟨ad211,e211,hx211_0⟩:=Kd.at_int (Kd.R_reads' HO_14.out).2.2 5 p211 q211
       obtain rfl:ad189=ad211:=(by injection e211)
       (try simp only [show (5:Int).toNat=5 from rfl,Nat.reduceMul,Nat.reduceEqDiff,Go.Addr.add,↓reduceIte] at hx211_0)
       have qi211:(5<x14_3.length)=True:=eq_true (by omega)
       (try rw [show ((5:Int)).toNat=5 from rfl] at hx211_0)
       replace p211:=eq_true p211
       replace q211:=eq_true q211
       have p212:0≤(6:Int):=(by omega)
       have q212:6<(x14_3.length:Int):=of_decide_eq_true (by first|(with_reducible assumption)|assumption)
       obtain ⟨ad212,e212,hx212_0⟩:=Kd.at_int (Kd.R_reads' HO_14.out).2.2 6 p212 q212
       obtain rfl:ad189=ad212:=(by injection e212)
       (try simp only [show (6:Int).toNat=6 from rfl,Nat.reduceMul,Nat.reduceEqDiff,Go.Addr.add,↓reduceIte] at hx212_0)
       have qi212:(6<x14_3.length)=True:=eq_true (by omega)
       (try rw [show ((6:Int)).toNat=6 from rfl] at hx212_0)
       replace p212:=eq_true p212
       replace q212:=eq_true q212
       refine start_ (n:=30) (S:=fun w'=>w'.cell? ad189=some (.int .i64 (rd x14_3 0))∧w'.cell? ⟨ad189.block,ad189.off+1,none⟩=some (.int .i64 (rd x14_3 1))∧w'.cell? ⟨ad189.block,ad189.off+2,none⟩=some (.int .i64 (rd x14_3 2))∧w'.cell? ⟨ad189.block,ad189.off+3,none⟩=some (.int .i64 (rd x14_3 3))∧w'.cell? ⟨ad189.block,ad189.off+4,none⟩=some (.int .i64 (rd x14_3 4))∧w'.cell? ⟨ad189.block,ad189.off+5,none⟩=some (.int .i64 (rd x14_3 5))∧w'.cell? ⟨ad189.block,ad189.off+6,none⟩=some (.int .i64 (rd x14_3 6))) (ds:=[]) #[G,G,G,G,G,G,G,G,G,G,G,G,G,G,G,G,G,G,G,G,G,G,G,G,G,G,G,G,G,G] (by kernel_rfl) rfl rfl ⟨hx206_0,hx207_0,hx208_0,hx209_0,hx210_0,hx211_0,hx212_0⟩ (fun hHeld=>?_); refine with_tabW legateref02_Block.tab23 legateref02_Block.bits23 (fun HT_ HW_=>?_)
       generalize w66.drew=w67 at HO_7 HO_13 HO_14 HB hx206_0 hx207_0 hx208_0 hx209_0 hx210_0 hx211_0 hx212_0 hHeld ⊢
       refine zq 0 (some 163) ?_ #[O,G,G,G,G,G,G,G,G,G,G,G,G,G,G,G,G,G,G,G,G,G,G,G,G,G,G,G,G,G] rfl rfl (any_of HT_.out (by kernel_rfl)) (fun _ _ _ h=>h) (Or.inl ⟨by rfl,?_⟩) ?_ ?_ ?_
       rotate_left;(intro w';go_simp;with_reducible rfl);rotate_left;(simp only [Act.put,zp];rfl)
       refine zq 1 (some 164) ?_ #[O,O,G,G,G,G,G,G,G,G,G,G,G,G,G,G,G,G,G,G,G,G,G,G,G,G,G,G,G,G] rfl rfl (any_of HT_.out (by kernel_rfl)) (fun _ _ _ h=>h) (Or.inl ⟨by rfl,?_⟩) ?_ ?_ ?_
       rotate_left;(intro w';go_simp;with_reducible rfl);rotate_left;(simp only [Act.put,zp];rfl)
       refine zq 2 (some 165) ?_ #[O,O,O,G,G,G,G,G,G,G,G,G,G,G,G,G,G,G,G,G,G,G,G,G,G,G,G,G,G,G] rfl rfl (any_of HT_.out (by kernel_rfl)) (fun _ _ _ h=>h) (Or.inl ⟨by rfl,?_⟩) ?_ ?_ ?_
       rotate_left;(intro w';go_simp;with_reducible rfl);rotate_left;(simp only [Act.put,zp];rfl)
       refine zq 3 (some 166) ?_ #[O,O,O,O,G,G,G,G,G,G,G,G,G,G,G,G,G,G,G,G,G,G,G,G,G,G,G,G,G,G] rfl rfl (any_of HT_.out (by kernel_rfl)) (fun _ _ _ h=>h) (Or.inl ⟨by rfl,?_⟩) ?_ ?_ ?_
       rotate_left;(intro w';go_simp;with_reducible rfl);rotate_left;(simp only [Act.put,zp];rfl)
       refine zq 4 (some 167) ?_ #[O,O,O,O,O,G,G,G,G,G,G,G,G,G,G,G,G,G,G,G,G,G,G,G,G,G,G,G,G,G] rfl rfl (any_of HT_.out (by kernel_rfl)) (fun _ _ _ h=>h) (Or.inl ⟨by rfl,?_⟩) ?_ ?_ ?_
       rotate_left;(intro w';go_simp;with_reducible rfl);rotate_left;(simp only [Act.put,zp];rfl)
       refine zq 5 (some 168) ?_ #[O,O,O,O,O,O,G,G,G,G,G,G,G,G,G,G,G,G,G,G,G,G,G,G,G,G,G,G,G,G] rfl rfl (any_of HT_.out (by kernel_rfl)) (fun _ _ _ h=>h) (Or.inl ⟨by rfl,?_⟩) ?_ ?_ ?_
       rotate_left;(intro w';go_simp;with_reducible rfl);rotate_left;(simp only [Act.put,zp];rfl)
       refine zq 7 (some 170) ?_ #[O,O,O,O,O,O,G,O,G,G,G,G,G,G,G,G,G,G,G,G,G,G,G,G,G,G,G,G,G,G] rfl rfl (any_of HT_.out (by kernel_rfl)) (fun _ _ _ h=>h) (Or.inl ⟨by rfl,?_⟩) ?_ ?_ ?_
       rotate_left;(intro w';go_simp;with_reducible rfl);rotate_left;(simp only [Act.put,zp];rfl)
       refine zq 8 (some 171) ?_ #[O,O,O,O,O,O,G,O,O,G,G,G,G,G,G,G,G,G,G,G,G,G,G,G,G,G,G,G,G,G] rfl rfl (any_of HT_.out (by kernel_rfl)) (fun _ _ _ h=>h) (Or.inl ⟨by rfl,?_⟩) ?_ ?_ ?_
       rotate_left;(intro w';go_simp;with_reducible rfl);rotate_left;(simp only [Act.put,zp];rfl)
       refine zq 10 (some 173) ?_ #[O,O,O,O,O,O,G,O,O,G,O,G,G,G,G,G,G,G,G,G,G,G,G,G,G,G,G,G,G,G] rfl rfl (any_of HT_.out (by kernel_rfl)) (fun _ _ _ h=>h) (Or.inl ⟨by rfl,?_⟩) ?_ ?_ ?_
       rotate_left;(intro w';go_simp;with_reducible rfl);rotate_left;(simp only [Act.put,zp];rfl)
       refine zq 11 (some 174) ?_ #[O,O,O,O,O,O,G,O,O,G,O,O,G,G,G,G,G,G,G,G,G,G,G,G,G,G,G,G,G,G] rfl rfl (any_of HT_.out (by kernel_rfl)) (fun _ _ _ h=>h) (Or.inl ⟨by rfl,?_⟩) ?_ ?_ ?_
       rotate_left;(intro w';go_simp;with_reducible rfl);rotate_left;(simp only [Act.put,zp];rfl)
       refine zq 13 (some 176) ?_ #[O,O,O,O,O,O,G,O,O,G,O,O,G,O,G,G,G,G,G,G,G,G,G,G,G,G,G,G,G,G] rfl rfl (any_of HT_.out (by kernel_rfl)) (fun _ _ _ h=>h) (Or.inl ⟨by rfl,?_⟩) ?_ ?_ ?_
       rotate_left;(intro w';go_simp;with_reducible rfl);rotate_left;(simp only [Act.put,zp];rfl)
       refine zq 14 (some 177) ?_ #[O,O,O,O,O,O,G,O,O,G,O,O,G,O,O,G,G,G,G,G,G,G,G,G,G,G,G,G,G,G] rfl rfl (any_of HT_.out (by kernel_rfl)) (fun _ _ _ h=>h) (Or.inl ⟨by rfl,?_⟩) ?_ ?_ ?_
       rotate_left;(intro w';go_simp;with_reducible rfl);rotate_left;(simp only [Act.put,zp];rfl)
       refine zq 16 (some 179) ?_ #[O,O,O,O,O,O,G,O,O,G,O,O,G,O,O,G,O,G,G,G,G,G,G,G,G,G,G,G,G,G] rfl rfl (any_of HT_.out (by kernel_rfl)) (fun _ _ _ h=>h) (Or.inl ⟨by rfl,?_⟩) ?_ ?_ ?_
       rotate_left;(intro w';go_simp;with_reducible rfl);rotate_left;(simp only [Act.put,zp];rfl)
       refine zq 19 (some 182) ?_ #[O,O,O,O,O,O,G,O,O,G,O,O,G,O,O,G,O,G,G,O,G,G,G,G,G,G,G,G,G,G] rfl rfl (any_of HT_.out (by kernel_rfl)) (fun _ _ _ h=>h) (Or.inl ⟨by rfl,?_⟩) ?_ ?_ ?_
       rotate_left;(intro w';go_simp;with_reducible rfl);rotate_left;(simp only [Act.put,zp];rfl)
       refine zq 20 (some 183) ?_ #[O,O,O,O,O,O,G,O,O,G,O,O,G,O,O,G,O,G,G,O,O,G,G,G,G,G,G,G,G,G] rfl rfl (any_of HT_.out (by kernel_rfl)) (fun _ _ _ h=>h) (Or.inl ⟨by rfl,?_⟩) ?_ ?_ ?_
       rotate_left;(intro w';go_simp;with_reducible rfl);rotate_left;(simp only [Act.put,zp];rfl)
       refine zq 22 (some 185) ?_ #[O,O,O,O,O,O,G,O,O,G,O,O,G,O,O,G,O,G,G,O,O,G,O,G,G,G,G,G,G,G] rfl rfl (any_of HT_.out (by kernel_rfl)) (fun _ _ _ h=>h) (Or.inl ⟨by rfl,?_⟩) ?_ ?_ ?_
       rotate_left;(intro w';go_simp;with_reducible rfl);rotate_left;(simp only [Act.put,zp];rfl)
       refine zq 23 (some 186) ?_ #[O,O,O,O,O,O,G,O,O,G,O,O,G,O,O,G,O,G,G,O,O,G,O,O,G,G,G,G,G,G] rfl rfl (any_of HT_.out (by kernel_rfl)) (fun _ _ _ h=>h) (Or.inl ⟨by rfl,?_⟩) ?_ ?_ ?_
       rotate_left;(intro w';go_simp;with_reducible rfl);rotate_left;(simp only [Act.put,zp];rfl)
       refine zq 25 (some 188) ?_ #[O,O,O,O,O,O,G,O,O,G,O,O,G,O,O,G,O,G,G,O,O,G,O,O,G,O,G,G,G,G] rfl rfl (any_of HT_.out (by kernel_rfl)) (fun _ _ _ h=>h) (Or.inl ⟨by rfl,?_⟩) ?_ ?_ ?_
       rotate_left;(intro w';go_simp;with_reducible rfl);rotate_left;(simp only [Act.put,zp];rfl)
       refine zq 26 (some 189) ?_ #[O,O,O,O,O,O,G,O,O,G,O,O,G,O,O,G,O,G,G,O,O,G,O,O,G,O,O,G,G,G] rfl rfl (any_of HT_.out (by kernel_rfl)) (fun _ _ _ h=>h) (Or.inl ⟨by rfl,?_⟩) ?_ ?_ ?_
       rotate_left;(intro w';go_simp;with_reducible rfl);rotate_left;(simp only [Act.put,zp];rfl)
       refine take_ (i:=6) (N:=some 169) (v:=?_) (a':=?_) #[O,O,O,O,O,O,O,O,O,G,O,O,G,O,O,G,O,G,G,O,O,G,O,O,G,O,O,G,G,G] rfl rfl (take_ofW HT_.out HW_.out (by kernel_rfl)) (fun _ _ _ h=>h) (Or.inl ⟨by rfl,?_⟩) hHeld ?_ ?_
       rotate_left
       ·rintro w' ⟨s0,s1,s2,s3,s4,s5,s6⟩
        go_simp
        with_reducible rfl
       rotate_left
       ·simp only [Act.put,zp]
        rfl
       refine take_ (i:=9) (N:=some 172) (v:=?_) (a':=?_) #[O,O,O,O,O,O,O,O,O,O,O,O,G,O,O,G,O,G,G,O,O,G,O,O,G,O,O,G,G,G] rfl rfl (take_ofW HT_.out HW_.out (by kernel_rfl)) (fun _ _ _ h=>h) (Or.inl ⟨by rfl,?_⟩) hHeld ?_ ?_
       rotate_left
       ·rintro w' ⟨s0,s1,s2,s3,s4,s5,s6⟩
        go_simp
        with_reducible rfl
       rotate_left
       ·simp only [Act.put,zp]
        rfl
       refine take_ (i:=12) (N:=some 175) (v:=?_) (a':=?_) #[O,O,O,O,O,O,O,O,O,O,O,O,O,O,O,G,O,G,G,O,O,G,O,O,G,O,O,G,G,G] rfl rfl (take_ofW HT_.out HW_.out (by kernel_rfl)) (fun _ _ _ h=>h) (Or.inl ⟨by rfl,?_⟩) hHeld ?_ ?_
       rotate_left
       ·rintro w' ⟨s0,s1,s2,s3,s4,s5,s6⟩
        go_simp
        with_reducible rfl
       rotate_left
       ·simp only [Act.put,zp]
        rfl
       refine take_ (i:=15) (N:=some 178) (v:=?_) (a':=?_) #[O,O,O,O,O,O,O,O,O,O,O,O,O,O,O,O,O,G,G,O,O,G,O,O,G,O,O,G,G,G] rfl rfl (take_ofW HT_.out HW_.out (by kernel_rfl)) (fun _ _ _ h=>h) (Or.inl ⟨by rfl,?_⟩) hHeld ?_ ?_
       rotate_left
       ·rintro w' ⟨s0,s1,s2,s3,s4,s5,s6⟩
        go_simp
        with_reducible rfl
       rotate_left
       ·simp only [Act.put,zp]
        rfl
       refine zq 17 (some 180) ?_ #[O,O,O,O,O,O,O,O,O,O,O,O,O,O,O,O,O,O,G,O,O,G,O,O,G,O,O,G,G,G] rfl rfl (any_of HT_.out (by kernel_rfl)) (fun _ _ _ h=>h) (Or.inl ⟨by rfl,?_⟩) ?_ ?_ ?_
       rotate_left;(intro w';go_simp;with_reducible rfl);rotate_left;(simp only [Act.put,zp];rfl)
       refine zq 18 (some 181) ?_ #[O,O,O,O,O,O,O,O,O,O,O,O,O,O,O,O,O,O,O,O,O,G,O,O,G,O,O,G,G,G] rfl rfl (any_of HT_.out (by kernel_rfl)) (fun _ _ _ h=>h) (Or.inl ⟨by rfl,?_⟩) ?_ ?_ ?_
       rotate_left;(intro w';go_simp;with_reducible rfl);rotate_left;(simp only [Act.put,zp];rfl)
       refine take_ (i:=21) (N:=some 184) (v:=?_) (a':=?_) #[O,O,O,O,O,O,O,O,O,O,O,O,O,O,O,O,O,O,O,O,O,O,O,O,G,O,O,G,G,G] rfl rfl (take_ofW HT_.out HW_.out (by kernel_rfl)) (fun _ _ _ h=>h) (Or.inl ⟨by rfl,?_⟩) hHeld ?_ ?_
       rotate_left
       ·rintro w' ⟨s0,s1,s2,s3,s4,s5,s6⟩
        go_simp
        with_reducible rfl
       rotate_left
       ·simp only [Act.put,zp]
        rfl
       refine take_ (i:=24) (N:=some 187) (v:=?_) (a':=?_) #[O,O,O,O,O,O,O,O,O,O,O,O,O,O,O,O,O,O,O,O,O,O,O,O,O,O,O,G,G,G] rfl rfl (take_ofW HT_.out HW_.out (by kernel_rfl)) (fun _ _ _ h=>h) (Or.inl ⟨by rfl,?_⟩) hHeld ?_ ?_
       rotate_left
       ·rintro w' ⟨s0,s1,s2,s3,s4,s5,s6⟩
        go_simp
        with_reducible rfl
       rotate_left
       ·simp only [Act.put,zp]
        rfl
       refine take_ (i:=27) (N:=some 190) (v:=?_) (a':=?_) #[O,O,O,O,O,O,O,O,O,O,O,O,O,O,O,O,O,O,O,O,O,O,O,O,O,O,O,O,G,G] rfl rfl (take_ofW HT_.out HW_.out (by kernel_rfl)) (fun _ _ _ h=>h) (Or.inl ⟨by rfl,?_⟩) hHeld ?_ ?_
       rotate_left
       ·rintro w' ⟨s0,s1,s2,s3,s4,s5,s6⟩
        go_simp
        with_reducible rfl
       rotate_left
       ·simp only [Act.put,zp]
        rfl
       refine one_ (i:=28) (N:=some 191) #[O,O,O,O,O,O,O,O,O,O,O,O,O,O,O,O,O,O,O,O,O,O,O,O,O,O,O,O,O,G] rfl rfl (one_of HT_.out (by kernel_rfl)) (by decide) (fun K hK=>?_)
       refine Kd.R_lit_step (Kd.int .i64) _ 3 ?hg (N:=191) ?hd (xs:=([Int.tmod (wrap64 ((Int.tmod (wrap64 ((wrap64 ((wrap64 ((wrap64 ((rd x14_3 7)+(Go.bits .xor .i64 (Go.bits .xor .i64 t198 t199) t200)))+(Go.bits .xor .i64 (Go.bits .and .i64 (rd x14_3 4) (rd x14_3 5)) (Go.bits .and .i64 (wrap64 (4294967295 - (rd x14_3 4))) (rd x14_3 6)))))+(rd l0 x15_3)))+(rd x7_2 x15_3))) 4294967296)+(Int.tmod (wrap64 ((Go.bits .xor .i64 (Go.bits .xor .i64 t203 t204) t205)+(Go.bits .xor .i64 (Go.bits .xor .i64 (Go.bits .and .i64 (rd x14_3 0) (rd x14_3 1)) (Go.bits .and .i64 (rd x14_3 0) (rd x14_3 2))) (Go.bits .and .i64 (rd x14_3 1) (rd x14_3 2))))) 4294967296))) 4294967296,rd x14_3 0,rd x14_3 1,rd x14_3 2,Int.tmod (wrap64 ((rd x14_3 3)+(Int.tmod (wrap64 ((wrap64 ((wrap64 ((wrap64 ((rd x14_3 7)+(Go.bits .xor .i64 (Go.bits .xor .i64 t198 t199) t200)))+(Go.bits .xor .i64 (Go.bits .and .i64 (rd x14_3 4) (rd x14_3 5)) (Go.bits .and .i64 (wrap64 (4294967295 - (rd x14_3 4))) (rd x14_3 6)))))+(rd l0 x15_3)))+(rd x7_2 x15_3))) 4294967296))) 4294967296,rd x14_3 4,rd x14_3 5,rd x14_3 6]:List Int)) (inner:=[.int .i64 (Int.tmod (wrap64 ((Int.tmod (wrap64 ((wrap64 ((wrap64 ((wrap64 ((rd x14_3 7)+(Go.bits .xor .i64 (Go.bits .xor .i64 t198 t199) t200)))+(Go.bits .xor .i64 (Go.bits .and .i64 (rd x14_3 4) (rd x14_3 5)) (Go.bits .and .i64 (wrap64 (4294967295 - (rd x14_3 4))) (rd x14_3 6)))))+(rd l0 x15_3)))+(rd x7_2 x15_3))) 4294967296)+(Int.tmod (wrap64 ((Go.bits .xor .i64 (Go.bits .xor .i64 t203 t204) t205)+(Go.bits .xor .i64 (Go.bits .xor .i64 (Go.bits .and .i64 (rd x14_3 0) (rd x14_3 1)) (Go.bits .and .i64 (rd x14_3 0) (rd x14_3 2))) (Go.bits .and .i64 (rd x14_3 1) (rd x14_3 2))))) 4294967296))) 4294967296),.int .i64 (rd x14_3 0),.int .i64 (rd x14_3 1),.int .i64 (rd x14_3 2),.int .i64 (Int.tmod (wrap64 ((rd x14_3 3)+(Int.tmod (wrap64 ((wrap64 ((wrap64 ((wrap64 ((rd x14_3 7)+(Go.bits .xor .i64 (Go.bits .xor .i64 t198 t199) t200)))+(Go.bits .xor .i64 (Go.bits .and .i64 (rd x14_3 4) (rd x14_3 5)) (Go.bits .and .i64 (wrap64 (4294967295 - (rd x14_3 4))) (rd x14_3 6)))))+(rd l0 x15_3)))+(rd x7_2 x15_3))) 4294967296))) 4294967296),.int .i64 (rd x14_3 4),.int .i64 (rd x14_3 5),.int .i64 (rd x14_3 6)]) (ok:=fun _=>True) (okp:=fun _=>True) ?hr ?hp (fun _ hk=>hk) trivial (Below.refl _ _) (Nat.le_refl _) (by simp) ?_; (case hd=>rfl); (case hg=>rfl); (case hr=>first|(go_simp; done)|(go_simp; rfl)); (case hp=>exact (Reps.one (show Kd.M (Kd.int .i64) _ _ _ (Int.tmod (wrap64 ((Int.tmod (wrap64 ((wrap64 ((wrap64 ((wrap64 ((rd x14_3 7)+(Go.bits .xor .i64 (Go.bits .xor .i64 t198 t199) t200)))+(Go.bits .xor .i64 (Go.bits .and .i64 (rd x14_3 4) (rd x14_3 5)) (Go.bits .and .i64 (wrap64 (4294967295 - (rd x14_3 4))) (rd x14_3 6)))))+(rd l0 x15_3)))+(rd x7_2 x15_3))) 4294967296)+(Int.tmod (wrap64 ((Go.bits .xor .i64 (Go.bits .xor .i64 t203 t204) t205)+(Go.bits .xor .i64 (Go.bits .xor .i64 (Go.bits .and .i64 (rd x14_3 0) (rd x14_3 1)) (Go.bits .and .i64 (rd x14_3 0) (rd x14_3 2))) (Go.bits .and .i64 (rd x14_3 1) (rd x14_3 2))))) 4294967296))) 4294967296) [.int .i64 (Int.tmod (wrap64 ((Int.tmod (wrap64 ((wrap64 ((wrap64 ((wrap64 ((rd x14_3 7)+(Go.bits .xor .i64 (Go.bits .xor .i64 t198 t199) t200)))+(Go.bits .xor .i64 (Go.bits .and .i64 (rd x14_3 4) (rd x14_3 5)) (Go.bits .and .i64 (wrap64 (4294967295 - (rd x14_3 4))) (rd x14_3 6)))))+(rd l0 x15_3)))+(rd x7_2 x15_3))) 4294967296)+(Int.tmod (wrap64 ((Go.bits .xor .i64 (Go.bits .xor .i64 t203 t204) t205)+(Go.bits .xor .i64 (Go.bits .xor .i64 (Go.bits .and .i64 (rd x14_3 0) (rd x14_3 1)) (Go.bits .and .i64 (rd x14_3 0) (rd x14_3 2))) (Go.bits .and .i64 (rd x14_3 1) (rd x14_3 2))))) 4294967296))) 4294967296)] from rfl) (Reps.one (show Kd.M (Kd.int .i64) _ _ _ (rd x14_3 0) [.int .i64 (rd x14_3 0)] from rfl) (Reps.one (show Kd.M (Kd.int .i64) _ _ _ (rd x14_3 1) [.int .i64 (rd x14_3 1)] from rfl) (Reps.one (show Kd.M (Kd.int .i64) _ _ _ (rd x14_3 2) [.int .i64 (rd x14_3 2)] from rfl) (Reps.one (show Kd.M (Kd.int .i64) _ _ _ (Int.tmod (wrap64 ((rd x14_3 3)+(Int.tmod (wrap64 ((wrap64 ((wrap64 ((wrap64 ((rd x14_3 7)+(Go.bits .xor .i64 (Go.bits .xor .i64 t198 t199) t200)))+(Go.bits .xor .i64 (Go.bits .and .i64 (rd x14_3 4) (rd x14_3 5)) (Go.bits .and .i64 (wrap64 (4294967295 - (rd x14_3 4))) (rd x14_3 6)))))+(rd l0 x15_3)))+(rd x7_2 x15_3))) 4294967296))) 4294967296) [.int .i64 (Int.tmod (wrap64 ((rd x14_3 3)+(Int.tmod (wrap64 ((wrap64 ((wrap64 ((wrap64 ((rd x14_3 7)+(Go.bits .xor .i64 (Go.bits .xor .i64 t198 t199) t200)))+(Go.bits .xor .i64 (Go.bits .and .i64 (rd x14_3 4) (rd x14_3 5)) (Go.bits .and .i64 (wrap64 (4294967295 - (rd x14_3 4))) (rd x14_3 6)))))+(rd l0 x15_3)))+(rd x7_2 x15_3))) 4294967296))) 4294967296)] from rfl) (Reps.one (show Kd.M (Kd.int .i64) _ _ _ (rd x14_3 4) [.int .i64 (rd x14_3 4)] from rfl) (Reps.one (show Kd.M (Kd.int .i64) _ _ _ (rd x14_3 5) [.int .i64 (rd x14_3 5)] from rfl) (Reps.one (show Kd.M (Kd.int .i64) _ _ _ (rd x14_3 6) [.int .i64 (rd x14_3 6)] from rfl) (Reps.none _ _))))))))))
       intro v214 w68 ho69 hb hg_ hnew_
       have HS0_:=(hb.cell (World.block_lt_of_cell? _ _ (hHeld.1))).trans (hHeld.1)
       have HS1_:=(hb.cell (World.block_lt_of_cell? _ _ (hHeld.2.1))).trans (hHeld.2.1)
       have HS2_:=(hb.cell (World.block_lt_of_cell? _ _ (hHeld.2.2.1))).trans (hHeld.2.2.1)
       have HS3_:=(hb.cell (World.block_lt_of_cell? _ _ (hHeld.2.2.2.1))).trans (hHeld.2.2.2.1)
       have HS4_:=(hb.cell (World.block_lt_of_cell? _ _ (hHeld.2.2.2.2.1))).trans (hHeld.2.2.2.2.1)
       have HS5_:=(hb.cell (World.block_lt_of_cell? _ _ (hHeld.2.2.2.2.2.1))).trans (hHeld.2.2.2.2.2.1)
       have HS6_:=(hb.cell (World.block_lt_of_cell? _ _ (hHeld.2.2.2.2.2.2))).trans (hHeld.2.2.2.2.2.2)
       clear hg_ hnew_
       (first|rw [← Ny213.out] at ho69|(simp only [Int.reduceToNat] at ho69; rw [← Ny213.out] at ho69))
       have n0_:=zK (Kd.R_elder' (by (with_reducible repeat (first|apply Kd.R_alloc|apply Kd.R_drewN|apply Kd.R_drew)); exact HO_7.out) (Kd.R_base ho69) hb)
       have n1_:=zK (Kd.R_elder' (by (with_reducible repeat (first|apply Kd.R_alloc|apply Kd.R_drewN|apply Kd.R_drew)); exact HO_13.out) (Kd.R_base ho69) hb)
       have n2_:=zK (Kd.R_elder' (by (with_reducible repeat (first|apply Kd.R_alloc|apply Kd.R_drewN|apply Kd.R_drew)); exact HO_14.out) (Kd.R_base ho69) hb)
       have n3_:=zK (Kd.R_lower (Kd.R_new' (Kd.R_new' (Kd.R_new' ho69 (Kd.R_lt (by (with_reducible repeat (first|apply Kd.R_alloc|apply Kd.R_drewN|apply Kd.R_drew)); exact HO_7.out))) (Kd.R_lt (by (with_reducible repeat (first|apply Kd.R_alloc|apply Kd.R_drewN|apply Kd.R_drew)); exact HO_13.out))) (Kd.R_lt (by (with_reducible repeat (first|apply Kd.R_alloc|apply Kd.R_drewN|apply Kd.R_drew)); exact HO_14.out))) (below_size (by repeat (first|(with_reducible first|exact HB.out|apply zA|apply zN|apply zD)|exact HB.out))))
       have n4_:=zK (below_step (by repeat (first|(with_reducible first|exact HB.out|apply zA|apply zN|apply zD)|exact HB.out)) hb)
       clear HO_7
       clear HO_13
       clear HO_14
       clear HB
       have HO_7:=n0_
       have HO_13:=n1_
       have HO_14:=n2_
       have HO215:=n3_
       have HB:=n4_
       clear n0_ n1_ n2_ n3_ n4_
       clear hb ho69
       refine hK.out _ _ ⟨HS0_,HS1_,HS2_,HS3_,HS4_,HS5_,HS6_⟩ (fun hHeld=>?_)
       clear hK K
       refine norm_ (a':=?_) ?_ ?_
       rotate_left
       ·show Act.put _ (some 191) _=_
        simp only [Act.put,zp]
        rfl
       refine zq 29 (some 14) ?_ #[O,O,O,O,O,O,O,O,O,O,O,O,O,O,O,O,O,O,O,O,O,O,O,O,O,O,O,O,O,O] rfl rfl (any_of HT_.out (by kernel_rfl)) (fun _ _ _ h=>h) (Or.inl ⟨by rfl,?_⟩) ?_ ?_ ?_
       rotate_left;(intro w';go_simp;with_reducible rfl);rotate_left;(simp only [Act.put,zp];rfl)
       refine done_ (done_of HT_.out (by kernel_rfl)) ?_
       try go_wp2
       go_roundg k3
       case measure=>have:=HJ3.out; have:=HK2.out; have:=HK3.out; omega
       case rel=>exact ⟨(y213),(wrap64 (x15_3+1)),(by first|rfl|(simp; done)|(simp [*]; done)),H',⟨by have:=HJ3.out; have:=HK2.out; have:=HK3.out; omega⟩,⟨by (with_reducible repeat (first|apply Kd.R_alloc|apply Kd.R_drewN|apply Kd.R_drew)); exact Kd.R_mono HO_7.out (fun _ hk=>⟨hk.1.1,hk.2⟩)⟩,⟨by (with_reducible repeat (first|apply Kd.R_alloc|apply Kd.R_drewN|apply Kd.R_drew)); exact Kd.R_mono HO_13.out (fun _ hk=>⟨hk.1.1,hk.2⟩)⟩,⟨by (with_reducible repeat (first|apply Kd.R_alloc|apply Kd.R_drewN|apply Kd.R_drew)); exact Kd.R_mono HO215.out (fun _ hk=>⟨hk.1.1.2,hk.1.2⟩)⟩,⟨by repeat (first|(with_reducible first|exact HB.out|apply zA|apply zN|apply zD)|exact HB.out)⟩⟩
end Go.Proofs.YtkgijkfcmbpgpaaDoor.PAll
end
