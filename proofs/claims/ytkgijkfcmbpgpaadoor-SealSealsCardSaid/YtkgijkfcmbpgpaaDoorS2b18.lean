import Derived.Test.YtkgijkfcmbpgpaaDoorS2b0
import Derived.Test.YtkgijkfcmbpgpaaDoorS2b1
import Derived.Test.YtkgijkfcmbpgpaaDoorS2b15
import Derived.Test.YtkgijkfcmbpgpaaDoorS2b2
section
namespace Go.Proofs.YtkgijkfcmbpgpaaDoor.PAll
open Go.RowKit Go.Proofs.YtkgijkfcmbpgpaaDoorW.PrintWords Go.Proofs.YtkgijkfcmbpgpaaDoorW.PrintLast Go.Proofs.YtkgijkfcmbpgpaaDoorW.PrintMore
attribute [local go_sem] max2_int min2_int max_two min_two max_three min_three max_four min_four
set_option linter.unusedVariables false
set_option linter.unusedSimpArgs false
mutual
def legateref04_Times.l0:Nat→Int→Int→Int→Int→Option (Int)
  | 0,_,_,_,_=>none
  | k+1,x0,x1,x5,x6=>if x6<8 then (if 0≤x6 then (if (Int.tmod (shr .u8 x1 x6) 2)=1 then (legateref04_Times.l0 k x0 x1 (Go.bits .xor .i64 x5 (shl .i64 (wrap64 (x0)) x6)) (wrap64 (x6+1))) else (legateref04_Times.l0 k x0 x1 x5 (wrap64 (x6+1)))) else (none)) else (legateref04_Times.l1 k x5 14)
def legateref04_Times.l1:Nat→Int→Int→Option (Int)
  | 0,_,_=>none
  | k+1,x5,x7=>if x7≥8 then (if 0≤x7 then (if (Int.tmod (shr .i64 x5 x7) 2)=1 then (if 0≤(wrap64 (x7 - 8)) then (legateref04_Times.l1 k (Go.bits .xor .i64 x5 (shl .i64 283 (wrap64 (x7 - 8)))) (wrap64 (x7 - 1))) else (none)) else (legateref04_Times.l1 k x5 (wrap64 (x7 - 1)))) else (none)) else (some ((x5) % 256))
end
def legateref04_Times.f (k:Nat) (a0:Int) (a1:Int):Option (Int):=legateref04_Times.l0 k a0 a1 0 0
set_option maxHeartbeats 8000000 in
set_option maxRecDepth 100000 in
theorem legateref04_Times.calls (k:Nat) (a0:Int) (a1:Int) (r:Int) (w:World) (h:legateref04_Times.f k a0 a1=some r) :
 Calls Tryd.prog 90 #[.int .u8 a0,.int .u8 a1] w fun e w'=>e=.returned (.int .u8 r)∧Drawn0 w w':=by
 have H:(legateref04_Times.l0 k a0 a1 0 0)=some r:=h
 clear h
 have H':=zK H
 clear H
 go_enter Tryd.func90,Tryd.ntmps90
 go_wp2
 go_loopg [5,6] k (fun kq v5 v6 w'=>∃ (x5_1:Int) (x6_1:Int),v5=.int .i64 x5_1∧v6=.int .i64 x6_1∧Aside0 (legateref04_Times.l0 kq a0 a1 x5_1 x6_1=some r)∧Aside0 (kq≤k)∧Drawn0 w w')
 case atStart=>exact ⟨(0),(0),(by first|rfl|(simp; done)|(simp [*]; done)),(by first|rfl|(simp; done)|(simp [*]; done)),H',⟨Nat.le_refl _⟩,by repeat (first|exact Drawn0.refl _|apply Drawn0.step)⟩
 case round =>
  clear H'
  try clear p2
  obtain ⟨x5_1,x6_1,rfl,rfl,HA,HK1,⟨m1,rfl⟩⟩:=hrel
  cases gk with
  | zero=>exact absurd HA.out (by simp [legateref04_Times.l0])
  | succ k1 =>
   have H:=HA.out
   clear HA
   simp only [legateref04_Times.l0] at H
   by_cases c3:x6_1<8
   case pos =>
    rw [if_pos c3] at H
    have c3b0:decide (x6_1<8)=true:=decide_eq_true c3
    clear c3
    by_cases c4:0≤x6_1
    case neg =>
     rw [if_neg c4] at H
     exact absurd H (by simp)
    rw [if_pos c4] at H
    have c4b0:=eq_true c4
    have c4b1:decide (0≤x6_1)=true:=decide_eq_true c4
    clear c4
    obtain ⟨ji5,hji5⟩:∃ j_:Int,(shr .u8 a1 x6_1)=j_:=⟨_,rfl⟩
    replace H:(if (Int.tmod (ji5) 2)=1 then (legateref04_Times.l0 k1 a0 a1 (Go.bits .xor .i64 x5_1 (shl .i64 (wrap64 (a0)) x6_1)) (wrap64 (x6_1+1))) else (legateref04_Times.l0 k1 a0 a1 x5_1 (wrap64 (x6_1+1))))=some r:=by first|(rw [hji5] at H; exact H)|(simp only [hji5] at H ⊢; exact H)
    have hji5_:(a1 / 2 ^ min x6_1.toNat 8)=ji5:=hji5
    have hji5z:x6_1≤8→(a1 / 2 ^ x6_1.toNat)=ji5:=shr_small hji5
    by_cases c6:(Int.tmod (ji5) 2)=1
    case neg =>
     rw [if_neg c6] at H
     have c6b0:((Int.tmod (ji5) 2) == 1)=false:=beq_eq_false_iff_ne.mpr c6
     have c6b1:((Int.tmod (ji5) 2) != 1)=true:=bne_iff_ne.mpr c6
     have H':=zK H
     clear H
     go_wp2
     go_roundg k1
     case measure=>have:=HK1.out; omega
     case rel=>exact ⟨(x5_1),(wrap64 (x6_1+1)),(by first|rfl|(simp; done)|(simp [*]; done)),(by first|rfl|(simp; done)|(simp [*]; done)),H',⟨by have:=HK1.out; omega⟩,by repeat (first|exact Drawn0.refl _|apply Drawn0.step)⟩
    rw [if_pos c6] at H
    have c6b0:((Int.tmod (ji5) 2) == 1)=true:=beq_iff_eq.mpr c6
    have c6b1:((Int.tmod (ji5) 2) != 1)=false:=bne_eq_false_iff_eq.mpr c6
    clear c6
    have c7b0:=eq_true (of_decide_eq_true (by first|(with_reducible assumption)|assumption):0≤x6_1)
    obtain ⟨ji8,hji8⟩:∃ j_:Int,(shl .i64 (wrap64 (a0)) x6_1)=j_:=⟨_,rfl⟩
    replace H:(legateref04_Times.l0 k1 a0 a1 (Go.bits .xor .i64 x5_1 (ji8)) (wrap64 (x6_1+1)))=some r:=by first|(rw [hji8] at H; exact H)|(simp only [hji8] at H ⊢; exact H)
    have hji8_:(IntKind.i64.wrap ((wrap64 (a0)) * 2 ^ min x6_1.toNat 64))=ji8:=hji8
    have hji8z:x6_1≤64→(IntKind.i64.wrap ((wrap64 (a0)) * 2 ^ x6_1.toNat))=ji8:=shl_small hji8
    have hji8y:(wrap64 ((wrap64 (a0)) * 2 ^ min x6_1.toNat 64))=ji8:=(i64_w _).symm.trans hji8_
    have hji8x:x6_1≤64→(wrap64 ((wrap64 (a0)) * 2 ^ x6_1.toNat))=ji8:=fun h_=>(i64_w _).symm.trans (hji8z h_)
    have H':=zK H
    clear H
    go_wp2
    go_roundg k1
    case measure=>have:=HK1.out; omega
    case rel=>exact ⟨(Go.bits .xor .i64 x5_1 (ji8)),(wrap64 (x6_1+1)),(by first|rfl|(simp; done)|(simp only [← hji8]<;>(first|rfl|simp))|(simp [*]; done)),(by first|rfl|(simp; done)|(simp [*]; done)),H',⟨by have:=HK1.out; omega⟩,by repeat (first|exact Drawn0.refl _|apply Drawn0.step)⟩
   rw [if_neg c3] at H
   have c3b0:decide (x6_1<8)=false:=decide_eq_false c3
   clear c3
   have H':=zK H
   clear H
   go_wp2
   go_loopg [5,7] k1 (fun kq v5 v7 w'=>∃ (x5_2:Int) (x7_2:Int),v5=.int .i64 x5_2∧v7=.int .i64 x7_2∧Aside0 (legateref04_Times.l1 kq x5_2 x7_2=some r)∧Aside0 (kq≤k1)∧Drawn0 w w')
   case atStart=>exact ⟨(x5_1),(14),(by first|rfl|(simp; done)|(simp [*]; done)),(by first|rfl|(simp; done)|(simp [*]; done)),H',⟨Nat.le_refl _⟩,by repeat (first|exact Drawn0.refl _|apply Drawn0.step)⟩
   case round =>
    clear H'
    try clear p2
    try clear c3
    try clear c3b0
    try clear c4
    try clear c4b0
    try clear c4b1
    try clear c6
    try clear c6b0
    try clear c6b1
    try clear p6
    try clear c7
    try clear c7b0
    try clear p2
    obtain ⟨x5_2,x7_2,rfl,rfl,HA,HK2,⟨m2,rfl⟩⟩:=hrel
    cases gk with
    | zero=>exact absurd HA.out (by simp [legateref04_Times.l1])
    | succ k2 =>
     have H:=HA.out
     clear HA
     simp only [legateref04_Times.l1] at H
     by_cases c9:x7_2≥8
     case neg =>
      rw [if_neg c9] at H
      have c9b0:decide (8≤x7_2)=false:=decide_eq_false c9
      clear c9
      obtain rfl:=Option.some.inj H
      go_wp2
      go_ret
      exact ⟨by first|rfl|(simp; done)|(simp [*]; done),by repeat (first|exact Drawn0.refl _|apply Drawn0.step)⟩
     rw [if_pos c9] at H
     have c9b0:decide (8≤x7_2)=true:=decide_eq_true c9
     clear c9
     by_cases c10:0≤x7_2
     case neg =>
      rw [if_neg c10] at H
      exact absurd H (by simp)
     rw [if_pos c10] at H
     have c10b0:=eq_true c10
     have c10b1:decide (0≤x7_2)=true:=decide_eq_true c10
     clear c10
     obtain ⟨ji11,hji11⟩:∃ j_:Int,(shr .i64 x5_2 x7_2)=j_:=⟨_,rfl⟩
     replace H:(if (Int.tmod (ji11) 2)=1 then (if 0≤(wrap64 (x7_2 - 8)) then (legateref04_Times.l1 k2 (Go.bits .xor .i64 x5_2 (shl .i64 283 (wrap64 (x7_2 - 8)))) (wrap64 (x7_2 - 1))) else (none)) else (legateref04_Times.l1 k2 x5_2 (wrap64 (x7_2 - 1))))=some r:=by first|(rw [hji11] at H; exact H)|(simp only [hji11] at H ⊢; exact H)
     have hji11_:(x5_2 / 2 ^ min x7_2.toNat 64)=ji11:=hji11
     have hji11z:x7_2≤64→(x5_2 / 2 ^ x7_2.toNat)=ji11:=shr_small hji11
     by_cases c12:(Int.tmod (ji11) 2)=1
     case neg =>
      rw [if_neg c12] at H
      have c12b0:((Int.tmod (ji11) 2) == 1)=false:=beq_eq_false_iff_ne.mpr c12
      have c12b1:((Int.tmod (ji11) 2) != 1)=true:=bne_iff_ne.mpr c12
      have H':=zK H
      clear H
      go_wp2
      go_roundg k2
      case measure=>have:=HK1.out; have:=HK2.out; omega
      case rel=>exact ⟨(x5_2),(wrap64 (x7_2 - 1)),(by first|rfl|(simp; done)|(simp [*]; done)),(by first|rfl|(simp; done)|(simp [*]; done)),H',⟨by have:=HK1.out; have:=HK2.out; omega⟩,by repeat (first|exact Drawn0.refl _|apply Drawn0.step)⟩
     rw [if_pos c12] at H
     have c12b0:((Int.tmod (ji11) 2) == 1)=true:=beq_iff_eq.mpr c12
     have c12b1:((Int.tmod (ji11) 2) != 1)=false:=bne_eq_false_iff_eq.mpr c12
     clear c12
     obtain ⟨ji13,hji13⟩:∃ j_:Int,(wrap64 (x7_2 - 8))=j_:=⟨_,rfl⟩
     replace H:(if 0≤(ji13) then (legateref04_Times.l1 k2 (Go.bits .xor .i64 x5_2 (shl .i64 283 (ji13))) (wrap64 (x7_2 - 1))) else (none))=some r:=by first|(rw [hji13] at H; exact H)|(simp only [hji13] at H ⊢; exact H)
     have hji13w:(IntKind.i64.wrap (x7_2 - 8))=ji13:=(i64_w _).trans hji13
     by_cases c14:0≤(ji13)
     case neg =>
      rw [if_neg c14] at H
      exact absurd H (by simp)
     rw [if_pos c14] at H
     have c14b0:=eq_true c14
     have c14b1:decide (0≤(ji13))=true:=decide_eq_true c14
     clear c14
     obtain ⟨ji15,hji15⟩:∃ j_:Int,(shl .i64 283 (ji13))=j_:=⟨_,rfl⟩
     replace H:(legateref04_Times.l1 k2 (Go.bits .xor .i64 x5_2 (ji15)) (wrap64 (x7_2 - 1)))=some r:=by first|(rw [hji15] at H; exact H)|(simp only [hji15] at H ⊢; exact H)
     have hji15_:(IntKind.i64.wrap (283 * 2 ^ min (ji13).toNat 64))=ji15:=hji15
     have hji15z:(ji13)≤64→(IntKind.i64.wrap (283 * 2 ^ (ji13).toNat))=ji15:=shl_small hji15
     have hji15y:(wrap64 (283 * 2 ^ min (ji13).toNat 64))=ji15:=(i64_w _).symm.trans hji15_
     have hji15x:(ji13)≤64→(wrap64 (283 * 2 ^ (ji13).toNat))=ji15:=fun h_=>(i64_w _).symm.trans (hji15z h_)
     have H':=zK H
     clear H
     go_wp2
     go_roundg k2
     case measure=>have:=HK1.out; have:=HK2.out; omega
     case rel=>exact ⟨(Go.bits .xor .i64 x5_2 (ji15)),(wrap64 (x7_2 - 1)),(by first|rfl|(simp; done)|(simp only [← hji15]<;>(first|rfl|simp))|(simp [*]; done)),(by first|rfl|(simp; done)|(simp [*]; done)),H',⟨by have:=HK1.out; have:=HK2.out; omega⟩,by repeat (first|exact Drawn0.refl _|apply Drawn0.step)⟩
mutual
def legateref04_Swap.l0:Nat→Int→Int→Int→Option (Int)
  | 0,_,_,_=>none
  | k+1,x0,x3,x4=>if x4<256 then (legateref04_Swap.j1 k x0 x3 x4 (x3 == 0)) else (legateref04_Swap.j1 k x0 x3 x4 false)
def legateref04_Swap.j1:Nat→Int→Int→Int→Bool→Option (Int)
  | 0,_,_,_,_=>none
  | k+1,x0,x3,x4,x12=>if x12=true then ((legateref04_Times.f k x0 ((x4) % 256)).bind fun t426=>(if t426=1 then (legateref04_Swap.l0 k x0 x4 (wrap64 (x4+1))) else (legateref04_Swap.l0 k x0 x3 (wrap64 (x4+1))))) else (legateref04_Swap.l1 k x3 99 0)
def legateref04_Swap.l1:Nat→Int→Int→Int→Option (Int)
  | 0,_,_,_=>none
  | k+1,x3,x5,x6=>if x6≤4 then (if 0≤x6 then (if 0≤(wrap64 (8 - x6)) then (legateref04_Swap.l1 k x3 (Go.bits .xor .i64 x5 (Int.tmod (Go.bits .or .i64 (shl .i64 x3 x6) (shr .i64 x3 (wrap64 (8 - x6)))) 256)) (wrap64 (x6+1))) else (none)) else (none)) else (some ((x5) % 256))
end
def legateref04_Swap.f (k:Nat) (a0:Int):Option (Int):=legateref04_Swap.l0 k a0 0 1
set_option maxHeartbeats 8000000 in
set_option maxRecDepth 100000 in
theorem legateref04_Swap.calls (k:Nat) (a0:Int) (r:Int) (w:World) (h:legateref04_Swap.f k a0=some r) :
 Calls Tryd.prog 83 #[.int .u8 a0] w fun e w'=>e=.returned (.int .u8 r)∧Drawn0 w w':=by
 have H:(legateref04_Swap.l0 k a0 0 1)=some r:=h
 clear h
 have H':=zK H
 clear H
 go_enter Tryd.func83,Tryd.ntmps83
 go_wp2
 repeat (go_quiet (fail); try go_wp2)
 go_loopg [3,4] k (fun kq v3 v4 w'=>∃ (x3_1:Int) (x4_1:Int),v3=.int .i64 x3_1∧v4=.int .i64 x4_1∧Aside0 (legateref04_Swap.l0 kq a0 x3_1 x4_1=some r)∧Aside0 (kq≤k)∧Drawn0 w w')
 case atStart=>exact ⟨(0),(1),(by first|rfl|(simp; done)|(simp [*]; done)),(by first|rfl|(simp; done)|(simp [*]; done)),H',⟨Nat.le_refl _⟩,by repeat (first|exact Drawn0.refl _|apply Drawn0.step)⟩
 case round =>
  clear H'
  obtain ⟨x3_1,x4_1,rfl,rfl,HA,HK1,⟨m1,rfl⟩⟩:=hrel
  cases gk with
  | zero=>exact absurd HA.out (by simp [legateref04_Swap.l0])
  | succ k1 =>
   have H:=HA.out
   clear HA
   simp only [legateref04_Swap.l0] at H
   have HC2:=zK H
   clear H
   go_upto_region 3 with (fail)
   repeat (go_quiet (fail); go_upto_region 3 with (fail))
   go_cut [12] (fun v12 wc=>∃ (kq:Nat) (x12_1:Bool),v12=.bool x12_1∧Aside0 (legateref04_Swap.j1 kq a0 x3_1 x4_1 x12_1=some r)∧Aside0 (kq≤k1)∧Drawn0 w wc)
   case first =>
    have H:=HC2.out
    clear HC2
    by_cases c3:x4_1<256
    case neg =>
     rw [if_neg c3] at H
     have c3b0:decide (x4_1<256)=false:=decide_eq_false c3
     clear c3
     (first|rw [c3b0]|(simp only [i64_w,i32_w]; rw [c3b0])|skip)
     have H':=zK H
     clear H
     go_wp2
     repeat (go_quiet (fail); try go_wp2)
     go_meet
     case rel=>exact ⟨_,(false),(by first|rfl|(simp; done)|(simp [*]; done)),H',⟨by have:=HK1.out; first|omega|exact Nat.le_refl _⟩,by repeat (first|exact Drawn0.refl _|apply Drawn0.step)⟩
    rw [if_pos c3] at H
    have c3b0:decide (x4_1<256)=true:=decide_eq_true c3
    clear c3
    (first|rw [c3b0]|(simp only [i64_w,i32_w]; rw [c3b0])|skip)
    have H':=zK H
    clear H
    go_wp2
    repeat (go_quiet (fail); try go_wp2)
    go_meet
    case rel=>exact ⟨_,((x3_1 == 0)),(by first|rfl|(simp; done)|(simp [*]; done)),H',⟨by have:=HK1.out; first|omega|exact Nat.le_refl _⟩,by repeat (first|exact Drawn0.refl _|apply Drawn0.step)⟩
   case rest =>
    clear HC2
    try clear p2
    try clear c3
    try clear c3b0
    obtain ⟨kq,x12_1,rfl,HA,HJ1,⟨mc1,rfl⟩⟩:=hcut
    cases kq with
    | zero=>exact absurd HA.out (by simp [legateref04_Swap.j1])
    | succ kj1 =>
     have H:=HA.out
     clear HA
     simp only [legateref04_Swap.j1] at H
     by_cases c4:x12_1=true
     case pos =>
      subst c4
      have H1:((legateref04_Times.f kj1 a0 ((x4_1) % 256)).bind fun t426=>(if t426=1 then (legateref04_Swap.l0 kj1 a0 x4_1 (wrap64 (x4_1+1))) else (legateref04_Swap.l0 kj1 a0 x3_1 (wrap64 (x4_1+1)))))=some r:=by rw [if_pos rfl] at H; exact H
      clear H
      have H:=H1
      clear H1
      replace H:=Option.bind_eq_some_iff.mp H
      obtain ⟨t426,A50,H⟩:=H
      replace H:(if t426=1 then (legateref04_Swap.l0 kj1 a0 x4_1 (wrap64 (x4_1+1))) else (legateref04_Swap.l0 kj1 a0 x3_1 (wrap64 (x4_1+1))))=some r:=H
      have A5:=zK A50
      clear A50
      by_cases c6:t426=1
      case neg =>
       rw [if_neg c6] at H
       have c6b0:(t426 == 1)=false:=beq_eq_false_iff_ne.mpr c6
       have c6b1:(t426 != 1)=true:=bne_iff_ne.mpr c6
       have H':=zK H
       clear H
       go_wp2_with (first|(go_at_call 90; (with_reducible refine (legateref04_Times.calls kj1 a0 ((x4_1) % 256) t426 _ A5.out).mono ?_); rintro e w' ⟨rfl,⟨nd,rfl⟩⟩; (try first|exact ⟨rfl,_,World.drewN_drewN _ _ _⟩|exact ⟨rfl,_,Eq.trans (World.drewN_drewN _ _ _) (congrArg (World.drewN _) (Nat.add_assoc _ _ _))⟩)))
       repeat (go_quiet (first|(go_at_call 90; (with_reducible refine (legateref04_Times.calls kj1 a0 ((x4_1) % 256) t426 _ A5.out).mono ?_); rintro e w' ⟨rfl,⟨nd,rfl⟩⟩; (try first|exact ⟨rfl,_,World.drewN_drewN _ _ _⟩|exact ⟨rfl,_,Eq.trans (World.drewN_drewN _ _ _) (congrArg (World.drewN _) (Nat.add_assoc _ _ _))⟩))); try go_wp2_with (first|(go_at_call 90; (with_reducible refine (legateref04_Times.calls kj1 a0 ((x4_1) % 256) t426 _ A5.out).mono ?_); rintro e w' ⟨rfl,⟨nd,rfl⟩⟩; (try first|exact ⟨rfl,_,World.drewN_drewN _ _ _⟩|exact ⟨rfl,_,Eq.trans (World.drewN_drewN _ _ _) (congrArg (World.drewN _) (Nat.add_assoc _ _ _))⟩))))
       go_roundg kj1
       case measure=>have:=HK1.out; have:=HJ1.out; omega
       case rel=>exact ⟨(x3_1),(wrap64 (x4_1+1)),(by first|rfl|(simp; done)|(simp [*]; done)),(by first|rfl|(simp; done)|(simp [*]; done)),H',⟨by have:=HK1.out; have:=HJ1.out; omega⟩,by repeat (first|exact Drawn0.refl _|apply Drawn0.step)⟩
      rw [if_pos c6] at H
      have c6b0:(t426 == 1)=true:=beq_iff_eq.mpr c6
      have c6b1:(t426 != 1)=false:=bne_eq_false_iff_eq.mpr c6
      clear c6
      have H':=zK H
      clear H
      go_wp2_with (first|(go_at_call 90; (with_reducible refine (legateref04_Times.calls kj1 a0 ((x4_1) % 256) t426 _ A5.out).mono ?_); rintro e w' ⟨rfl,⟨nd,rfl⟩⟩; (try first|exact ⟨rfl,_,World.drewN_drewN _ _ _⟩|exact ⟨rfl,_,Eq.trans (World.drewN_drewN _ _ _) (congrArg (World.drewN _) (Nat.add_assoc _ _ _))⟩)))
      repeat (go_quiet (first|(go_at_call 90; (with_reducible refine (legateref04_Times.calls kj1 a0 ((x4_1) % 256) t426 _ A5.out).mono ?_); rintro e w' ⟨rfl,⟨nd,rfl⟩⟩; (try first|exact ⟨rfl,_,World.drewN_drewN _ _ _⟩|exact ⟨rfl,_,Eq.trans (World.drewN_drewN _ _ _) (congrArg (World.drewN _) (Nat.add_assoc _ _ _))⟩))); try go_wp2_with (first|(go_at_call 90; (with_reducible refine (legateref04_Times.calls kj1 a0 ((x4_1) % 256) t426 _ A5.out).mono ?_); rintro e w' ⟨rfl,⟨nd,rfl⟩⟩; (try first|exact ⟨rfl,_,World.drewN_drewN _ _ _⟩|exact ⟨rfl,_,Eq.trans (World.drewN_drewN _ _ _) (congrArg (World.drewN _) (Nat.add_assoc _ _ _))⟩))))
      go_roundg kj1
      case measure=>have:=HK1.out; have:=HJ1.out; omega
      case rel=>exact ⟨(x4_1),(wrap64 (x4_1+1)),(by first|rfl|(simp; done)|(simp [*]; done)),(by first|rfl|(simp; done)|(simp [*]; done)),H',⟨by have:=HK1.out; have:=HJ1.out; omega⟩,by repeat (first|exact Drawn0.refl _|apply Drawn0.step)⟩
     replace c4:=Bool.eq_false_iff.mpr c4
     subst c4
     have H1:(legateref04_Swap.l1 kj1 x3_1 99 0)=some r:=by rw [if_neg (show ¬ (false=true) by decide)] at H; exact H
     clear H
     have H:=H1
     clear H1
     have H':=zK H
     clear H
     go_wp2
     repeat (go_quiet (fail); try go_wp2)
     go_loopg [5,6] kj1 (fun kq v5 v6 w'=>∃ (x5_3:Int) (x6_3:Int),v5=.int .i64 x5_3∧v6=.int .i64 x6_3∧Aside0 (legateref04_Swap.l1 kq x3_1 x5_3 x6_3=some r)∧Aside0 (kq≤kj1)∧Drawn0 w w')
     case atStart=>exact ⟨(99),(0),(by first|rfl|(simp; done)|(simp [*]; done)),(by first|rfl|(simp; done)|(simp [*]; done)),H',⟨Nat.le_refl _⟩,by repeat (first|exact Drawn0.refl _|apply Drawn0.step)⟩
     case round =>
      clear H'
      try clear c1
      try clear p2
      try clear c3
      try clear c3b0
      try clear c4
      try clear c6
      try clear c6b0
      try clear c6b1
      try clear p6
      try clear p2
      obtain ⟨x5_3,x6_3,rfl,rfl,HA,HK3,⟨m3,rfl⟩⟩:=hrel
      cases gk with
      | zero=>exact absurd HA.out (by simp [legateref04_Swap.l1])
      | succ k3 =>
       have H:=HA.out
       clear HA
       simp only [legateref04_Swap.l1] at H
       by_cases c7:x6_3≤4
       case neg =>
        rw [if_neg c7] at H
        have c7b0:decide (x6_3≤4)=false:=decide_eq_false c7
        clear c7
        obtain rfl:=Option.some.inj H
        go_wp2
        repeat (go_quiet (fail); try go_wp2)
        go_ret
        exact ⟨by first|rfl|(simp; done)|(simp [*]; done),by repeat (first|exact Drawn0.refl _|apply Drawn0.step)⟩
       rw [if_pos c7] at H
       have c7b0:decide (x6_3≤4)=true:=decide_eq_true c7
       clear c7
       by_cases c8:0≤x6_3
       case neg =>
        rw [if_neg c8] at H
        exact absurd H (by simp)
       rw [if_pos c8] at H
       have c8b0:=eq_true c8
       have c8b1:decide (0≤x6_3)=true:=decide_eq_true c8
       clear c8
       obtain ⟨ji9,hji9⟩:∃ j_:Int,(shl .i64 x3_1 x6_3)=j_:=⟨_,rfl⟩
       replace H:(if 0≤(wrap64 (8 - x6_3)) then (legateref04_Swap.l1 k3 x3_1 (Go.bits .xor .i64 x5_3 (Int.tmod (Go.bits .or .i64 (ji9) (shr .i64 x3_1 (wrap64 (8 - x6_3)))) 256)) (wrap64 (x6_3+1))) else (none))=some r:=by first|(rw [hji9] at H; exact H)|(simp only [hji9] at H ⊢; exact H)
       have hji9_:(IntKind.i64.wrap (x3_1 * 2 ^ min x6_3.toNat 64))=ji9:=hji9
       have hji9z:x6_3≤64→(IntKind.i64.wrap (x3_1 * 2 ^ x6_3.toNat))=ji9:=shl_small hji9
       have hji9y:(wrap64 (x3_1 * 2 ^ min x6_3.toNat 64))=ji9:=(i64_w _).symm.trans hji9_
       have hji9x:x6_3≤64→(wrap64 (x3_1 * 2 ^ x6_3.toNat))=ji9:=fun h_=>(i64_w _).symm.trans (hji9z h_)
       obtain ⟨ji10,hji10⟩:∃ j_:Int,(wrap64 (8 - x6_3))=j_:=⟨_,rfl⟩
       replace H:(if 0≤(ji10) then (legateref04_Swap.l1 k3 x3_1 (Go.bits .xor .i64 x5_3 (Int.tmod (Go.bits .or .i64 (ji9) (shr .i64 x3_1 (ji10))) 256)) (wrap64 (x6_3+1))) else (none))=some r:=by first|(rw [hji10] at H; exact H)|(simp only [hji10] at H ⊢; exact H)
       have hji10w:(IntKind.i64.wrap (8 - x6_3))=ji10:=(i64_w _).trans hji10
       by_cases c11:0≤(ji10)
       case neg =>
        rw [if_neg c11] at H
        exact absurd H (by simp)
       rw [if_pos c11] at H
       have c11b0:=eq_true c11
       have c11b1:decide (0≤(ji10))=true:=decide_eq_true c11
       clear c11
       obtain ⟨ji12,hji12⟩:∃ j_:Int,(shr .i64 x3_1 (ji10))=j_:=⟨_,rfl⟩
       replace H:(legateref04_Swap.l1 k3 x3_1 (Go.bits .xor .i64 x5_3 (Int.tmod (Go.bits .or .i64 (ji9) (ji12)) 256)) (wrap64 (x6_3+1)))=some r:=by first|(rw [hji12] at H; exact H)|(simp only [hji12] at H ⊢; exact H)
       have hji12_:(x3_1 / 2 ^ min (ji10).toNat 64)=ji12:=hji12
       have hji12z:(ji10)≤64→(x3_1 / 2 ^ (ji10).toNat)=ji12:=shr_small hji12
       have H':=zK H
       clear H
       go_wp2
       repeat (go_quiet (fail); try go_wp2)
       go_roundg k3
       case measure=>have:=HK1.out; have:=HJ1.out; have:=HK3.out; omega
       case rel=>exact ⟨(Go.bits .xor .i64 x5_3 (Int.tmod (Go.bits .or .i64 (ji9) (ji12)) 256)),(wrap64 (x6_3+1)),(by first|rfl|(simp; done)|(simp only [← hji9,← hji12]<;>(first|rfl|simp))|(simp [*]; done)),(by first|rfl|(simp; done)|(simp [*]; done)),H',⟨by have:=HK1.out; have:=HJ1.out; have:=HK3.out; omega⟩,by repeat (first|exact Drawn0.refl _|apply Drawn0.step)⟩
def legateref04_Table.l0:Nat→List Int→Int→Option (List Int)
  | 0,_,_=>none
  | k+1,x1,x2=>if x2<256 then ((legateref04_Swap.f k ((x2) % 256)).bind fun t427=>(if x1.length<140737488355328 then (legateref04_Table.l0 k (x1++[t427]) (wrap64 (x2+1))) else (none))) else (some x1)
def legateref04_Table.f (k:Nat):Option (List Int):=legateref04_Table.l0 k ([]:List Int) 0
set_option maxHeartbeats 8000000 in
set_option maxRecDepth 100000 in
theorem legateref04_Table.calls (k:Nat) (r:List Int) (w:World) (h:legateref04_Table.f k=some r) :
 Calls Tryd.prog 73 #[] w fun e w'=>∃ v0_:Value,e=.returned (v0_)∧Kd.R (Kd.int .u8) 5 w' w.heap.size (fun _=>True) v0_ r∧Below w.heap.size w w':=by
 have HB:=zK (Below.refl w.heap.size w)
 have H:(legateref04_Table.l0 k ([]:List Int) 0)=some r:=h
 clear h
 have H':=zK H
 clear H
 go_enter Tryd.func73,Tryd.ntmps73
 go_wp2
 go_loopg [1,2] k (fun kq v1 v2 w'=>∃ (x1_1:List Int) (x2_1:Int),v2=.int .i64 x2_1∧Aside0 (legateref04_Table.l0 kq x1_1 x2_1=some r)∧Aside0 (kq≤k)∧Aside0 (Kd.R (Kd.int .u8) 5 w' w.heap.size (fun _=>True) v1 x1_1)∧Aside0 (Below w.heap.size w w'))
 case atStart=>exact ⟨(([]:List Int)),(0),(by first|rfl|(simp; done)|(simp [*]; done)),H',⟨Nat.le_refl _⟩,⟨by first|exact Kd.R_nil _ _ _ _ _|exact Kd.N_nil _ _ _ _ _|exact Kd.V_nil _ _ _ _ _|exact Kd.Q_nil _ _ _ _ _|exact Kd.S_nil _ _ _ _ _⟩,⟨by repeat (first|(with_reducible first|exact HB.out|apply zA|apply zN|apply zD)|exact HB.out)⟩⟩
 case round =>
  clear H'
  obtain ⟨x1_1,x2_1,rfl,HA,HK1,HO_1,HB⟩:=hrel
  cases gk with
  | zero=>exact absurd HA.out (by simp [legateref04_Table.l0])
  | succ k1 =>
   have H:=HA.out
   clear HA
   simp only [legateref04_Table.l0] at H
   by_cases c1:x2_1<256
   case neg =>
    rw [if_neg c1] at H
    have c1b0:decide (x2_1<256)=false:=decide_eq_false c1
    clear c1
    obtain rfl:=Option.some.inj H
    go_wp2
    go_ret
    exact ⟨_,by first|rfl|(simp [errW_none,errW_some]<;>rfl)|(simp [*,errW_none,errW_some]<;>rfl),by (with_reducible repeat (first|apply Kd.R_alloc|apply Kd.R_drewN|apply Kd.R_drew)); exact HO_1.out,by repeat (first|(with_reducible first|exact HB.out|apply zA|apply zN|apply zD)|exact HB.out)⟩
   rw [if_pos c1] at H
   have c1b0:decide (x2_1<256)=true:=decide_eq_true c1
   clear c1
   replace H:=Option.bind_eq_some_iff.mp H
   obtain ⟨t427,A20,H⟩:=H
   replace H:(if x1_1.length<140737488355328 then (legateref04_Table.l0 k1 (x1_1++[t427]) (wrap64 (x2_1+1))) else (none))=some r:=H
   have A2:=zK A20
   clear A20
   by_cases c3:x1_1.length<140737488355328
   case neg =>
    rw [if_neg c3] at H
    exact absurd H (by simp)
   rw [if_pos c3] at H
   have LMc3:=zK c3
   clear c3
   obtain ⟨y428,hy428⟩:∃ y_:List Int,y_=(x1_1++[t427]):=⟨_,rfl⟩
   replace H:(legateref04_Table.l0 k1 y428 (wrap64 (x2_1+1)))=some r:=by first|(rw [hy428]; with_reducible exact H)|(have H2_:=(Option.bind_some _ _).symm.trans H; rw [hy428]; with_reducible exact H2_)|(have H2_:=(Option.bind_some _ _).symm.trans H; with_reducible exact H2_)|with_reducible exact H|(rw [hy428]; exact H)|exact H
   have Ny428:=zK hy428
   clear hy428
   have H':=zK H
   clear H
   go_wp2_with (first|((with_reducible refine gate_callee (f:=83) rfl ?_); refine goesL_ (some 10) rfl rfl Tryd.func83 (by kernel_rfl) rfl #[.int .u8 ((x2_1) % 256)] rfl (by (try simp only [zm]); first|done|rfl|(simp only [zl]; rfl)) ?_; (with_reducible refine (legateref04_Swap.calls k1 ((x2_1) % 256) t427 _ A2.out).mono ?_); rintro e w' ⟨rfl,⟨nd,rfl⟩⟩; refine ⟨_,rfl,?_⟩)|((with_reducible refine gate_builtin (b:=.append) (xs:=#[.tmp 7,.tmp 11]) rfl ?_); at_builtin; refine Kd.R_append (Kd.int .u8) (w0:=w) w.heap.size rfl (.tmp 7) (.tmp 11) 44 5 (.int .u8 0) 1 rfl Tryd.underlying44 info5 rfl (by decide) (by omega) u1 x1_1 t427 [.int .u8 t427] (fun _=>True) (fun _=>False) rfl rfl ?aP (fun _ hk=>hk.elim) ?aF ?aO ?aB ?aS ?aL ?_; (case aP=>exact rfl); (case aB=>exact (by repeat (first|(with_reducible first|exact HB.out|apply zA|apply zN|apply zD)|exact HB.out))); (case aF=>exact (fun _ _=>trivial)); (case aO=>exact (by (with_reducible repeat (first|apply Kd.R_alloc|apply Kd.R_drewN|apply Kd.R_drew)); exact HO_1.out)); (case aS=>exact (below_size (by repeat (first|(with_reducible first|exact HB.out|apply zA|apply zN|apply zD)|exact HB.out)))); (case aL=>have:=LMc3.out; omega); intro v429 w4 ho hb hg hat; rw [← Ny428.out] at ho; have n0_:=zK (hb); have n1_:=zK (ho); clear HB; clear HO_1; have HB:=n0_; have HO430:=n1_; clear n0_ n1_; clear ho hb hg hat))
   go_roundg k1
   case measure=>have:=HK1.out; omega
   case rel=>exact ⟨(y428),(wrap64 (x2_1+1)),(by first|rfl|(simp; done)|(simp [*]; done)),H',⟨by have:=HK1.out; omega⟩,⟨by (with_reducible repeat (first|apply Kd.R_alloc|apply Kd.R_drewN|apply Kd.R_drew)); exact HO430.out⟩,⟨by repeat (first|(with_reducible first|exact HB.out|apply zA|apply zN|apply zD)|exact HB.out)⟩⟩
def legateref07_New.f (k:Nat):Option (List Int×ByteArray×List Int):=(legateref03_New.f k).bind fun bt432=>((legateref04_Table.f k).bind fun t436=>(some (bt432.1,bt432.2,t436)))
set_option maxHeartbeats 8000000 in
set_option maxRecDepth 100000 in
theorem legateref07_New.calls (k:Nat) (r1:List Int) (r2:ByteArray) (r3:List Int) (w:World) (h:legateref07_New.f k=some (r1,r2,r3)) :
 Calls Tryd.prog 50 #[] w fun e w'=>∃ v0_ v2_:Value,e=.returned (.agg #[v0_,.string r2,v2_])∧Kd.R (Kd.int .i64) 3 w' w.heap.size (fun _=>True) v0_ r1∧Kd.R (Kd.int .u8) 5 w' w.heap.size (fun _=>True) v2_ r3∧Below w.heap.size w w':=by
 have hu52:=Tryd.underlying52
 have HB:=zK (Below.refl w.heap.size w)
 have H:((legateref03_New.f k).bind fun bt432=>((legateref04_Table.f k).bind fun t436=>(some (bt432.1,bt432.2,t436))))=some (r1,r2,r3):=h
 clear h
 replace H:=Option.bind_eq_some_iff.mp H
 obtain ⟨⟨t432,t435⟩,A10,H⟩:=H
 replace H:((legateref04_Table.f k).bind fun t436=>(some (t432,t435,t436)))=some (r1,r2,r3):=H
 have A1:=zK A10
 clear A10
 replace H:=Option.bind_eq_some_iff.mp H
 obtain ⟨t436,A20,H⟩:=H
 replace H:(some (t432,t435,t436))=some (r1,r2,r3):=H
 have A2:=zK A20
 clear A20
 simp only [Option.some.injEq,Prod.mk.injEq] at H
 obtain ⟨rfl,rfl,rfl⟩:=H
 go_enter Tryd.func50,Tryd.ntmps50
 go_wp2_with (first|((with_reducible refine gate_dst (N:=0) rfl ?_); refine box_event ?hg (N:=0) ?hd (cs:=#[.slice none 0 0,.string (⟨#[]⟩:ByteArray),.slice none 0 0]) (t:=52) ?hr ?_; (case hd=>rfl); (case hg=>rfl); (case hr=>first|(go_simp; done)|(go_simp; rfl)); intro gb431 hg w3 hbox hb; have n0_:=zK (below_step (by repeat (first|(with_reducible first|exact HB.out|apply zA|apply zN|apply zD)|exact HB.out)) hb); have n1_:=zK (hbox); have n2_:=zK ((by rw [hg]; exact (below_size (by repeat (first|(with_reducible first|exact HB.out|apply zA|apply zN|apply zD)|exact HB.out))):w.heap.size≤gb431)); have n3_:=zK ((by rw [hg]; exact (below_size (by repeat (first|(with_reducible first|exact HB.out|apply zA|apply zN|apply zD)|exact HB.out))):w.heap.size≤gb431)); clear HB; have HB:=n0_; have BK431:=n1_; have GW431:=n2_; have GE431:=n3_; clear n0_ n1_ n2_ n3_; clear hb hbox hg)|((with_reducible refine gate_callee (f:=35) rfl ?_); refine goesL_ (some 1) rfl rfl Tryd.func35 (by kernel_rfl) rfl #[] rfl (by (try simp only [zm]); first|done|rfl|(simp only [zl]; rfl)) ?_; (with_reducible refine (legateref03_New.calls k t432 t435 _ A1.out).mono ?_); rintro e w4 ⟨v433,rfl,ho0,hb⟩; refine ⟨_,rfl,?_⟩; have n0_:=zK (Kd.R_lower ho0 (below_size (by repeat (first|(with_reducible first|exact HB.out|apply zA|apply zN|apply zD|refine below_set ?_ GE431.out)|exact HB.out)))); have n1_:=zK (blk_below (g:=gb431) (o:=.cells #[.slice none 0 0,.string (⟨#[]⟩:ByteArray),.slice none 0 0] 52 (0,0)) (by (with_reducible repeat (first|refine blk_drewN ?_ _|refine blk_drew ?_|refine blk_alloc ?_ _)); exact BK431.out) hb); have n2_:=zK (below_step (by repeat (first|(with_reducible first|exact HB.out|apply zA|apply zN|apply zD|refine below_set ?_ GE431.out)|exact HB.out)) hb); clear BK431; clear HB; have HO434:=n0_; have BK431:=n1_; have HB:=n2_; clear n0_ n1_ n2_; (try clear hb); (try clear hb2); (try clear hk); (try clear hi); (try clear ho0))|((with_reducible refine gate_callee (f:=73) rfl ?_); refine goesL_ (some 2) rfl rfl Tryd.func73 (by kernel_rfl) rfl #[] rfl (by (try simp only [zm]); first|done|rfl|(simp only [zl]; rfl)) ?_; (with_reducible refine (legateref04_Table.calls k t436 _ A2.out).mono ?_); rintro e w5 ⟨v437,rfl,ho0,hb⟩; refine ⟨_,rfl,?_⟩; have n0_:=zK (Kd.R_below (by (with_reducible repeat (first|apply Kd.R_alloc|apply Kd.R_drewN|apply Kd.R_drew)); exact HO434.out) hb); have n1_:=zK (Kd.R_lower ho0 (below_size (by repeat (first|(with_reducible first|exact HB.out|apply zA|apply zN|apply zD|refine below_set ?_ GE431.out)|exact HB.out)))); have n2_:=zK (blk_below (g:=gb431) (o:=.cells #[.slice none 0 0,.string (⟨#[]⟩:ByteArray),.slice none 0 0] 52 (0,0)) (by (with_reducible repeat (first|refine blk_drewN ?_ _|refine blk_drew ?_|refine blk_alloc ?_ _)); exact BK431.out) hb); have n3_:=zK (below_step (by repeat (first|(with_reducible first|exact HB.out|apply zA|apply zN|apply zD|refine below_set ?_ GE431.out)|exact HB.out)) hb); clear HO434; clear BK431; clear HB; have HO434:=n0_; have HO438:=n1_; have BK431:=n2_; have HB:=n3_; clear n0_ n1_ n2_ n3_; (try clear hb); (try clear hb2); (try clear hk); (try clear hi); (try clear ho0); obtain ⟨Ao6,co6,eo6⟩:=Kd.R_slice HO438.out; subst eo6; obtain ⟨Ao7,co7,eo7⟩:=Kd.R_slice HO434.out; subst eo7; have hcz8_0:w5.cell? ⟨gb431,0,none⟩=some (.slice none 0 0):=(blk_cell BK431.out 0).trans rfl; have hcz8_1:w5.cell? ⟨gb431,1,none⟩=some (.string (⟨#[]⟩:ByteArray)):=(blk_cell BK431.out 1).trans rfl; have hcz8_2:w5.cell? ⟨gb431,2,none⟩=some (.slice none 0 0):=(blk_cell BK431.out 2).trans rfl; have hfz8_0:=blk_frozen BK431.out 0; have hfz8_1:=blk_frozen BK431.out 1; have hfz8_2:=blk_frozen BK431.out 2))
 refine bodyPost_ret (results_cell_row rfl _ _ gb431 52 #[.slice Ao7 t432.length co7,.string t435,.slice Ao6 t436.length co6] (0,0) _ rfl (by (with_reducible repeat (first|refine blk_drewN ?_ _|refine blk_drew ?_|refine blk_alloc ?_ _)); refine blk_put (cs:=#[.slice Ao7 t432.length co7,.string t435,.slice none 0 0]) ?_ 2 _ rfl; (with_reducible repeat (first|refine blk_drewN ?_ _|refine blk_drew ?_|refine blk_alloc ?_ _)); refine blk_put (cs:=#[.slice Ao7 t432.length co7,.string (⟨#[]⟩:ByteArray),.slice none 0 0]) ?_ 1 _ rfl; (with_reducible repeat (first|refine blk_drewN ?_ _|refine blk_drew ?_|refine blk_alloc ?_ _)); refine blk_put (cs:=#[.slice none 0 0,.string (⟨#[]⟩:ByteArray),.slice none 0 0]) ?_ 0 _ rfl; (with_reducible repeat (first|refine blk_drewN ?_ _|refine blk_drew ?_|refine blk_alloc ?_ _)); exact BK431.out) Tryd.underlying52 rfl (by kernel_rfl)) rfl ?_
 exact ⟨_,_,by first|rfl|(simp [errW_none,errW_some]<;>rfl)|(simp [*,errW_none,errW_some]<;>rfl),by (with_reducible repeat (first|apply Kd.R_alloc|apply Kd.R_drewN|apply Kd.R_drew)); exact Kd.R_mono (Kd.R_far (p:=⟨gb431,2,none⟩) (Kd.R_far (p:=⟨gb431,1,none⟩) (Kd.R_far (p:=⟨gb431,0,none⟩) (Kd.R_types HO434.out BK431.out (by decide)) (fun _ hk=>hk.2) (.slice Ao7 t432.length co7)) (fun _ hk=>hk.2) (.string t435)) (fun _ hk=>hk.2) (.slice Ao6 t436.length co6)) (fun _ hk=>trivial),by (with_reducible repeat (first|apply Kd.R_alloc|apply Kd.R_drewN|apply Kd.R_drew)); exact Kd.R_mono (Kd.R_far (p:=⟨gb431,2,none⟩) (Kd.R_far (p:=⟨gb431,1,none⟩) (Kd.R_far (p:=⟨gb431,0,none⟩) (Kd.R_types HO438.out BK431.out (by decide)) (fun _ hk=>hk.2) (.slice Ao7 t432.length co7)) (fun _ hk=>hk.2) (.string t435)) (fun _ hk=>hk.2) (.slice Ao6 t436.length co6)) (fun _ hk=>trivial),by repeat (first|(with_reducible first|exact HB.out|apply zA|apply zN|apply zD|refine below_set ?_ GE431.out)|exact HB.out)⟩
end Go.Proofs.YtkgijkfcmbpgpaaDoor.PAll
end
