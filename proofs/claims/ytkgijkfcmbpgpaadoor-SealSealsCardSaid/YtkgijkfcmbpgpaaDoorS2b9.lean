import Derived.Test.YtkgijkfcmbpgpaaDoorS2b0
import Derived.Test.YtkgijkfcmbpgpaaDoorS2b1
import Derived.Test.YtkgijkfcmbpgpaaDoorS2b2
import Derived.Test.YtkgijkfcmbpgpaaDoorS2b4
import Derived.Test.YtkgijkfcmbpgpaaDoorS2b8
section
namespace Go.Proofs.YtkgijkfcmbpgpaaDoor.PAll
open Go.RowKit Go.Proofs.YtkgijkfcmbpgpaaDoorW.PrintWords Go.Proofs.YtkgijkfcmbpgpaaDoorW.PrintLast Go.Proofs.YtkgijkfcmbpgpaaDoorW.PrintMore
open Go.Proofs.YtkgijkfcmbpgpaaDoor.Giv
attribute [local go_sem] max2_int min2_int max_two min_two max_three min_three max_four min_four
set_option linter.unusedVariables false
set_option linter.unusedSimpArgs false
def seal_Seal.j0:Nat→ByteArray→Int→ByteArray→ByteArray→Bool→Option (ByteArray×Int)
  | 0,_,_,_,_,_=>none
  | k+1,x0,x1,x2,x3,x18=>if x18=true then (some ((⟨#[]⟩:ByteArray),1)) else ((derive_Cipher.f x0 x1).bind fun t277=>((ctr_Cipher.f k t277 x2 x3).bind fun t278=>(if x2.size+t278.size≤9223372036854775807 then ((derive_Sum.f x0 x1).bind fun t279=>((hmac_Mac.f t279 (x2++t278)).bind fun t280=>(if (x2++t278).size+t280.size≤9223372036854775807 then (some ((x2++t278)++t280,0)) else (none)))) else (none))))
def seal_Seal.f (k:Nat) (a0:ByteArray) (a1:Int) (a2:ByteArray) (a3:ByteArray):Option (ByteArray×Int):=if (a2.size:Int)=12 then (seal_Seal.j0 k a0 a1 a2 a3 (decide ((a3.size:Int) > 65536))) else (seal_Seal.j0 k a0 a1 a2 a3 true)
set_option maxHeartbeats 8000000 in
set_option maxRecDepth 100000 in
theorem seal_Seal.calls (k:Nat) (a0:ByteArray) (a1:Int) (a2:ByteArray) (a3:ByteArray) (r1:ByteArray) (r2:Int) (w:World) {gw:GW w} (h:seal_Seal.f k a0 a1 a2 a3=some (r1,r2)) :
 Calls Tryd.prog 30 #[.string a0,.int .i64 a1,.string a2,.string a3] w fun e w'=>e=.returned (.tuple #[.string r1,.int .i64 r2])∧Below w.heap.size w w':=by
 have HG:=zK gw
 clear gw
 have HB:=zK (Below.refl w.heap.size w)
 have H:(if (a2.size:Int)=12 then (seal_Seal.j0 k a0 a1 a2 a3 (decide ((a3.size:Int) > 65536))) else (seal_Seal.j0 k a0 a1 a2 a3 true))=some (r1,r2):=h
 clear h
 have HC5:=zK H
 clear H
 go_enter Tryd.func30,Tryd.ntmps30
 go_upto_region 1 with (fail)
 go_cut [18] (fun v18 wc=>∃ (kq:Nat) (x18_4:Bool),v18=.bool x18_4∧Aside0 (seal_Seal.j0 kq a0 a1 a2 a3 x18_4=some (r1,r2))∧Aside0 (kq≤k)∧Aside0 (Below w.heap.size w wc))
 case first =>
  have H:=HC5.out
  clear HC5
  by_cases c6:(a2.size:Int)=12
  case neg =>
   rw [if_neg c6] at H
   have c6b0:((a2.size:Int) == 12)=false:=beq_eq_false_iff_ne.mpr c6
   have c6b1:((a2.size:Int) != 12)=true:=bne_iff_ne.mpr c6
   (first|rw [c6b0]|(simp only [i64_w,i32_w]; rw [c6b0])|skip)
   have H':=zK H
   clear H
   go_wp2
   go_meet
   case rel=>exact ⟨_,(true),(by first|rfl|(simp; done)|(simp [*]; done)),H',⟨by first|omega|exact Nat.le_refl _⟩,⟨by repeat (first|(with_reducible first|exact HB.out|apply zA|apply zN|apply zD)|exact HB.out)⟩⟩
  rw [if_pos c6] at H
  have c6b0:((a2.size:Int) == 12)=true:=beq_iff_eq.mpr c6
  have c6b1:((a2.size:Int) != 12)=false:=bne_eq_false_iff_eq.mpr c6
  clear c6
  (first|rw [c6b0]|(simp only [i64_w,i32_w]; rw [c6b0])|skip)
  have H':=zK H
  clear H
  go_wp2
  go_meet
  case rel=>exact ⟨_,(decide ((a3.size:Int) > 65536)),(by first|rfl|(simp; done)|(simp [*]; done)),H',⟨by first|omega|exact Nat.le_refl _⟩,⟨by repeat (first|(with_reducible first|exact HB.out|apply zA|apply zN|apply zD)|exact HB.out)⟩⟩
 case rest =>
  clear HC5
  try clear p2
  try clear c3
  try clear c6
  try clear c6b0
  try clear c6b1
  obtain ⟨kq,x18_4,rfl,HA,HJ4,HB⟩:=hcut
  cases kq with
  | zero=>exact absurd HA.out (by simp [seal_Seal.j0])
  | succ kj4 =>
   have H:=HA.out
   clear HA
   simp only [seal_Seal.j0] at H
   by_cases c7:x18_4=true
   case pos =>
    subst c7
    have H1:(some ((⟨#[]⟩:ByteArray),1))=some (r1,r2):=by rw [if_pos rfl] at H; exact H
    clear H
    have H:=H1
    clear H1
    simp only [Option.some.injEq,Prod.mk.injEq] at H
    obtain ⟨rfl,rfl⟩:=H
    go_wp2
    go_ret2
    exact ⟨by first|rfl|(simp [errW_none,errW_some]<;>rfl)|(simp [*,errW_none,errW_some]<;>rfl),by repeat (first|(with_reducible first|exact HB.out|apply zA|apply zN|apply zD)|exact HB.out)⟩
   replace c7:=Bool.eq_false_iff.mpr c7
   subst c7
   have H1:((derive_Cipher.f a0 a1).bind fun t277=>((ctr_Cipher.f kj4 t277 a2 a3).bind fun t278=>(if a2.size+t278.size≤9223372036854775807 then ((derive_Sum.f a0 a1).bind fun t279=>((hmac_Mac.f t279 (a2++t278)).bind fun t280=>(if (a2++t278).size+t280.size≤9223372036854775807 then (some ((a2++t278)++t280,0)) else (none)))) else (none))))=some (r1,r2):=by rw [if_neg (show ¬ (false=true) by decide)] at H; exact H
   clear H
   have H:=H1
   clear H1
   replace H:=Option.bind_eq_some_iff.mp H
   obtain ⟨t277,A80,H⟩:=H
   replace H:((ctr_Cipher.f kj4 t277 a2 a3).bind fun t278=>(if a2.size+t278.size≤9223372036854775807 then ((derive_Sum.f a0 a1).bind fun t279=>((hmac_Mac.f t279 (a2++t278)).bind fun t280=>(if (a2++t278).size+t280.size≤9223372036854775807 then (some ((a2++t278)++t280,0)) else (none)))) else (none)))=some (r1,r2):=H
   have A8:=zK A80
   clear A80
   replace H:=Option.bind_eq_some_iff.mp H
   obtain ⟨t278,A90,H⟩:=H
   replace H:(if a2.size+t278.size≤9223372036854775807 then ((derive_Sum.f a0 a1).bind fun t279=>((hmac_Mac.f t279 (a2++t278)).bind fun t280=>(if (a2++t278).size+t280.size≤9223372036854775807 then (some ((a2++t278)++t280,0)) else (none)))) else (none))=some (r1,r2):=H
   have A9:=zK A90
   clear A90
   by_cases c10:a2.size+t278.size≤9223372036854775807
   case neg =>
    rw [if_neg c10] at H
    exact absurd H (by simp)
   rw [if_pos c10] at H
   have c10b0:=eq_true c10
   have c10b0z:=c10b0
   (try simp only [ByteArray.size_append,Int.natCast_add,show (⟨#[]⟩:ByteArray).size=0 from rfl] at c10b0z)
   have c10b1:decide (a2.size+t278.size≤9223372036854775807)=true:=decide_eq_true c10
   have c10b1z:=c10b1
   (try simp only [ByteArray.size_append,Int.natCast_add,show (⟨#[]⟩:ByteArray).size=0 from rfl] at c10b1z)
   try have c10b2:(9223372036854775807<a2.size+t278.size)=False:=eq_false (Nat.not_lt.2 c10)
   replace H:=Option.bind_eq_some_iff.mp H
   obtain ⟨t279,A110,H⟩:=H
   replace H:((hmac_Mac.f t279 (a2++t278)).bind fun t280=>(if (a2++t278).size+t280.size≤9223372036854775807 then (some ((a2++t278)++t280,0)) else (none)))=some (r1,r2):=H
   have A11:=zK A110
   clear A110
   replace H:=Option.bind_eq_some_iff.mp H
   obtain ⟨t280,A120,H⟩:=H
   replace H:(if (a2++t278).size+t280.size≤9223372036854775807 then (some ((a2++t278)++t280,0)) else (none))=some (r1,r2):=H
   have A12:=zK A120
   clear A120
   by_cases c13:(a2++t278).size+t280.size≤9223372036854775807
   case neg =>
    rw [if_neg c13] at H
    exact absurd H (by simp)
   rw [if_pos c13] at H
   have c13b0:=eq_true c13
   have c13b0z:=c13b0
   (try simp only [ByteArray.size_append,Int.natCast_add] at c13b0z)
   have c13b1:decide ((a2++t278).size+t280.size≤9223372036854775807)=true:=decide_eq_true c13
   have c13b1z:=c13b1
   (try simp only [ByteArray.size_append,Int.natCast_add] at c13b1z)
   try have c13b2:(9223372036854775807<(a2++t278).size+t280.size)=False:=eq_false (Nat.not_lt.2 c13)
   have c13b2z:=c13b2
   (try simp only [ByteArray.size_append,Int.natCast_add] at c13b2z)
   simp only [Option.some.injEq,Prod.mk.injEq] at H
   obtain ⟨rfl,rfl⟩:=H
   go_wp2_with (first|((with_reducible refine gate_callee (f:=43) rfl ?_); refine goesL_ (some 22) rfl rfl Tryd.func43 (by kernel_rfl) rfl #[.string a0,.int .i64 a1] rfl (by (try simp only [zm]); first|done|rfl|(simp only [zl]; rfl)) ?_; (with_reducible refine (derive_Cipher.calls (gw:=?sideG) a0 a1 t277 _ A8.out).mono ?_); (case sideG=>exact GW.below HG.out (by repeat (first|(with_reducible first|exact HB.out|apply zA|apply zN|apply zD)|exact HB.out))); rintro e w14 ⟨rfl,hb⟩; refine ⟨_,rfl,?_⟩; have n0_:=zK (below_step (by repeat (first|(with_reducible first|exact HB.out|apply zA|apply zN|apply zD)|exact HB.out)) hb); clear HB; have HB:=n0_; clear n0_; (try clear hb); (try clear hb2); (try clear hk); (try clear hi))|((with_reducible refine gate_callee (f:=65) rfl ?_); refine goesL_ (some 25) rfl rfl Tryd.func65 (by kernel_rfl) rfl #[.string t277,.string a2,.string a3] rfl (by (try simp only [zm]); first|done|rfl|(simp only [zl]; rfl)) ?_; (with_reducible refine (ctr_Cipher.calls kj4 t277 a2 a3 t278 _ A9.out).mono ?_); rintro e w15 ⟨rfl,hb⟩; refine ⟨_,rfl,?_⟩; have n0_:=zK (below_step (by repeat (first|(with_reducible first|exact HB.out|apply zA|apply zN|apply zD)|exact HB.out)) hb); clear HB; have HB:=n0_; clear n0_; (try clear hb); (try clear hb2); (try clear hk); (try clear hi))|((with_reducible refine gate_callee (f:=32) rfl ?_); refine goesL_ (some 30) rfl rfl Tryd.func32 (by kernel_rfl) rfl #[.string a0,.int .i64 a1] rfl (by (try simp only [zm]); first|done|rfl|(simp only [zl]; rfl)) ?_; (with_reducible refine (derive_Sum.calls (gw:=?sideG) a0 a1 t279 _ A11.out).mono ?_); (case sideG=>exact GW.below HG.out (by repeat (first|(with_reducible first|exact HB.out|apply zA|apply zN|apply zD)|exact HB.out))); rintro e w16 ⟨rfl,hb⟩; refine ⟨_,rfl,?_⟩; have n0_:=zK (below_step (by repeat (first|(with_reducible first|exact HB.out|apply zA|apply zN|apply zD)|exact HB.out)) hb); clear HB; have HB:=n0_; clear n0_; (try clear hb); (try clear hb2); (try clear hk); (try clear hi))|((with_reducible refine gate_callee (f:=31) rfl ?_); refine goesL_ (some 32) rfl rfl Tryd.func31 (by kernel_rfl) rfl #[.string t279,.string (a2++t278)] rfl (by (try simp only [zm]); first|done|rfl|(simp only [zl]; rfl)) ?_; (with_reducible refine (hmac_Mac.calls (gw:=?sideG) t279 (a2++t278) t280 _ A12.out).mono ?_); (case sideG=>exact GW.below HG.out (by repeat (first|(with_reducible first|exact HB.out|apply zA|apply zN|apply zD)|exact HB.out))); rintro e w17 ⟨rfl,hb⟩; refine ⟨_,rfl,?_⟩; have n0_:=zK (below_step (by repeat (first|(with_reducible first|exact HB.out|apply zA|apply zN|apply zD)|exact HB.out)) hb); clear HB; have HB:=n0_; clear n0_; (try clear hb); (try clear hb2); (try clear hk); (try clear hi)))
   go_ret2
   exact ⟨by first|rfl|(simp [errW_none,errW_some]<;>rfl)|(simp [*,errW_none,errW_some]<;>rfl),by repeat (first|(with_reducible first|exact HB.out|apply zA|apply zN|apply zD)|exact HB.out)⟩
def hmac_Equal.l0:Nat→ByteArray→ByteArray→Int→Int→Int→Option (Bool)
  | 0,_,_,_,_,_=>none
  | k+1,x0,x1,x5,x13,x14=>if x14<x13 then (if 0≤x14 then (if x14<(x0.size:Int) then (if x14<(x1.size:Int) then (hmac_Equal.l0 k x0 x1 (Go.bits .or .u8 x5 (Go.bits .xor .u8 (bt x0 x14) (bt x1 x14))) x13 (wrap64 (x14+1))) else (none)) else (none)) else (none)) else (some (x5 == 0))
def hmac_Equal.f (k:Nat) (a0:ByteArray) (a1:ByteArray):Option (Bool):=if (a0.size:Int)=(a1.size:Int) then (hmac_Equal.l0 k a0 a1 0 (a0.size:Int) 0) else (some false)
set_option maxHeartbeats 8000000 in
set_option maxRecDepth 100000 in
theorem hmac_Equal.calls (k:Nat) (a0:ByteArray) (a1:ByteArray) (r:Bool) (w:World) (h:hmac_Equal.f k a0 a1=some r) :
 Calls Tryd.prog 39 #[.string a0,.string a1] w fun e w'=>e=.returned (.bool r)∧Drawn0 w w':=by
 have H:(if (a0.size:Int)=(a1.size:Int) then (hmac_Equal.l0 k a0 a1 0 (a0.size:Int) 0) else (some false))=some r:=h
 clear h
 by_cases c3:(a0.size:Int)=(a1.size:Int)
 case neg =>
  rw [if_neg c3] at H
  have c3b0:((a0.size:Int) == (a1.size:Int))=false:=beq_eq_false_iff_ne.mpr c3
  have c3b1:((a0.size:Int) != (a1.size:Int))=true:=bne_iff_ne.mpr c3
  have c3b2:(a0.size == a1.size)=false:=by first|simpa using c3|(simp at c3 ⊢; omega)
  obtain rfl:=Option.some.inj H
  go_enter Tryd.func39,Tryd.ntmps39
  go_wp2
  repeat (go_quiet (fail); try go_wp2)
  go_ret
  exact ⟨by first|rfl|(simp; done)|(simp [*]; done),by repeat (first|exact Drawn0.refl _|apply Drawn0.step)⟩
 rw [if_pos c3] at H
 have c3b0:((a0.size:Int) == (a1.size:Int))=true:=beq_iff_eq.mpr c3
 have c3b1:((a0.size:Int) != (a1.size:Int))=false:=bne_eq_false_iff_eq.mpr c3
 have c3b2:(a0.size == a1.size)=true:=by first|simpa using c3|(simp at c3 ⊢; omega)
 clear c3
 have H':=zK H
 clear H
 go_enter Tryd.func39,Tryd.ntmps39
 go_wp2
 repeat (go_quiet (fail); try go_wp2)
 go_loopg [5,14] k (fun kq v5 v14 w'=>∃ (x5_1:Int) (x14_1:Int),v5=.int .u8 x5_1∧v14=.int .i64 x14_1∧Aside0 (hmac_Equal.l0 kq a0 a1 x5_1 (a0.size:Int) x14_1=some r)∧Aside0 (kq≤k)∧Drawn0 w w')
 case atStart=>exact ⟨(0),(0),(by first|rfl|(simp; done)|(simp [*]; done)),(by first|rfl|(simp; done)|(simp [*]; done)),H',⟨Nat.le_refl _⟩,by repeat (first|exact Drawn0.refl _|apply Drawn0.step)⟩
 case round =>
  clear H'
  try clear p2
  try clear c3
  try clear c3b0
  try clear c3b1
  try clear c3b2
  obtain ⟨x5_1,x14_1,rfl,rfl,HA,HK1,⟨m1,rfl⟩⟩:=hrel
  cases gk with
  | zero=>exact absurd HA.out (by simp [hmac_Equal.l0])
  | succ k1 =>
   have H:=HA.out
   clear HA
   simp only [hmac_Equal.l0] at H
   by_cases c4:x14_1<(a0.size:Int)
   case neg =>
    rw [if_neg c4] at H
    have c4b0:decide (x14_1<(a0.size:Int))=false:=decide_eq_false c4
    clear c4
    obtain rfl:=Option.some.inj H
    go_wp2
    repeat (go_quiet (fail); try go_wp2)
    go_ret
    exact ⟨by first|rfl|(simp; done)|(simp [*]; done),by repeat (first|exact Drawn0.refl _|apply Drawn0.step)⟩
   rw [if_pos c4] at H
   have c4b0:decide (x14_1<(a0.size:Int))=true:=decide_eq_true c4
   clear c4
   by_cases c5:0≤x14_1
   case neg =>
    rw [if_neg c5] at H
    exact absurd H (by simp)
   rw [if_pos c5] at H
   have c5b0:decide (0≤x14_1)=true:=decide_eq_true c5
   clear c5
   by_cases c6:x14_1<(a0.size:Int)
   case neg =>
    rw [if_neg c6] at H
    exact absurd H (by simp)
   rw [if_pos c6] at H
   have c6b0:decide (x14_1<(a0.size:Int))=true:=decide_eq_true c6
   clear c6
   by_cases c8:x14_1<(a1.size:Int)
   case neg =>
    rw [if_neg c8] at H
    exact absurd H (by simp)
   rw [if_pos c8] at H
   have c8b0:decide (x14_1<(a1.size:Int))=true:=decide_eq_true c8
   clear c8
   have H':=zK H
   clear H
   have p7:0≤(x14_1:Int):=of_decide_eq_true (by first|(with_reducible assumption)|assumption)
   have q7:x14_1<(a0.size:Int):=of_decide_eq_true (by first|(with_reducible assumption)|assumption)
   have hx7:=bt_at a0 x14_1
   replace p7:=eq_true p7
   replace q7:=eq_true q7
   have p9:0≤(x14_1:Int):=of_decide_eq_true (by first|(with_reducible assumption)|assumption)
   have q9:x14_1<(a1.size:Int):=of_decide_eq_true (by first|(with_reducible assumption)|assumption)
   have hx9:=bt_at a1 x14_1
   replace p9:=eq_true p9
   replace q9:=eq_true q9
   go_wp2
   repeat (go_quiet (fail); try go_wp2)
   go_roundg k1
   case measure=>have:=HK1.out; omega
   case rel=>exact ⟨(Go.bits .or .u8 x5_1 (Go.bits .xor .u8 (bt a0 x14_1) (bt a1 x14_1))),(wrap64 (x14_1+1)),(by first|rfl|(simp; done)|(simp [*]; done)),(by first|rfl|(simp; done)|(simp [*]; done)),H',⟨by have:=HK1.out; omega⟩,by repeat (first|exact Drawn0.refl _|apply Drawn0.step)⟩
def seal_Open.f (k:Nat) (a0:ByteArray) (a1:Int) (a2:ByteArray):Option (ByteArray×Int):=if (a2.size:Int)<44 then (some ((⟨#[]⟩:ByteArray),10)) else (if (a2.size:Int) > 65580 then (some ((⟨#[]⟩:ByteArray),11)) else ((derive_Sum.f a0 a1).bind fun t281=>(if 0≤(wrap64 ((a2.size:Int) - 32)) then (if (wrap64 ((a2.size:Int) - 32))≤(a2.size:Int) then ((hmac_Mac.f t281 (a2.extract 0 ((wrap64 ((a2.size:Int) - 32)):Int).toNat)).bind fun t282=>((hmac_Equal.f k t282 (a2.extract ((wrap64 ((a2.size:Int) - 32)):Int).toNat a2.size)).bind fun t283=>(if t283=true then ((derive_Cipher.f a0 a1).bind fun t284=>(if 0≤12 then (if 12≤(a2.size:Int) then (if 12≤(wrap64 ((a2.size:Int) - 32)) then ((ctr_Cipher.f k t284 (a2.extract 0 12) (a2.extract 12 ((wrap64 ((a2.size:Int) - 32)):Int).toNat)).bind fun t285=>(some (t285,0))) else (none)) else (none)) else (none))) else (some ((⟨#[]⟩:ByteArray),20))))) else (none)) else (none))))
def seal_Open.T6:Bool×List (List Nat×List Nat):=(true,[([],[]),([],[]),([0,1],[0,1]),([],[]),([],[]),([3,4],[3,4]),([2,5,2],[2,5]),([],[]),([],[]),([7,8],[7,8]),([6,9,6],[6,9]),([10],[10]),([11,10],[11])])
def seal_Open.B6:List Nat:=[0,0,3,0,0,24,63,0,0,384,1023,2047,4095]
theorem seal_Open.tab6:rtab .any (opsOf Tryd.f33 6)=seal_Open.T6:=by kernel_rfl
theorem seal_Open.bits6:waitsOk seal_Open.T6.2 seal_Open.B6=true:=by kernel_rfl
def seal_Open.T8:Bool×List (List Nat×List Nat):=(true,[([],[]),([],[]),([0,1],[0,1]),([],[]),([3],[3]),([],[]),([],[]),([5,6],[5,6]),([2,4,7,2],[2,4,7]),([8,8,0,1,2,3,4,5,6,7,8],[8]),([9,0,1,2,3,4,5,6,7,8,9],[])])
def seal_Open.B8:List Nat:=[0,0,3,0,8,0,0,96,255,511,1023]
theorem seal_Open.tab8:rtab .any (opsOf Tryd.f33 8)=seal_Open.T8:=by kernel_rfl
theorem seal_Open.bits8:waitsOk seal_Open.T8.2 seal_Open.B8=true:=by kernel_rfl
set_option maxHeartbeats 8000000 in
set_option maxRecDepth 100000 in
theorem seal_Open.calls (k:Nat) (a0:ByteArray) (a1:Int) (a2:ByteArray) (r1:ByteArray) (r2:Int) (w:World) {gw:GW w} (h:seal_Open.f k a0 a1 a2=some (r1,r2)) :
 Calls Tryd.prog 33 #[.string a0,.int .i64 a1,.string a2] w fun e w'=>e=.returned (.tuple #[.string r1,.int .i64 r2])∧Below w.heap.size w w':=by
 have HG:=zK gw
 clear gw
 have HB:=zK (Below.refl w.heap.size w)
 have H:(if (a2.size:Int)<44 then (some ((⟨#[]⟩:ByteArray),10)) else (if (a2.size:Int) > 65580 then (some ((⟨#[]⟩:ByteArray),11)) else ((derive_Sum.f a0 a1).bind fun t281=>(if 0≤(wrap64 ((a2.size:Int) - 32)) then (if (wrap64 ((a2.size:Int) - 32))≤(a2.size:Int) then ((hmac_Mac.f t281 (a2.extract 0 ((wrap64 ((a2.size:Int) - 32)):Int).toNat)).bind fun t282=>((hmac_Equal.f k t282 (a2.extract ((wrap64 ((a2.size:Int) - 32)):Int).toNat a2.size)).bind fun t283=>(if t283=true then ((derive_Cipher.f a0 a1).bind fun t284=>(if 0≤12 then (if 12≤(a2.size:Int) then (if 12≤(wrap64 ((a2.size:Int) - 32)) then ((ctr_Cipher.f k t284 (a2.extract 0 12) (a2.extract 12 ((wrap64 ((a2.size:Int) - 32)):Int).toNat)).bind fun t285=>(some (t285,0))) else (none)) else (none)) else (none))) else (some ((⟨#[]⟩:ByteArray),20))))) else (none)) else (none)))))=some (r1,r2):=h
 clear h
 by_cases c4:(a2.size:Int)<44
 case pos =>
  rw [if_pos c4] at H
  have c4b0:decide ((a2.size:Int)<44)=true:=decide_eq_true c4
  have c4b1:decide (a2.size<44)=true:=decide_eq_true (by omega)
  clear c4
  simp only [Option.some.injEq,Prod.mk.injEq] at H
  obtain ⟨rfl,rfl⟩:=H
  go_enter Tryd.func33,Tryd.ntmps33
  go_wp2
  go_ret2
  exact ⟨by first|rfl|(simp [errW_none,errW_some]<;>rfl)|(simp [*,errW_none,errW_some]<;>rfl),by repeat (first|(with_reducible first|exact HB.out|apply zA|apply zN|apply zD)|exact HB.out)⟩
 rw [if_neg c4] at H
 have c4b0:decide ((a2.size:Int)<44)=false:=decide_eq_false c4
 have c4b1:decide (a2.size<44)=false:=decide_eq_false (by omega)
 clear c4
 by_cases c5:(a2.size:Int) > 65580
 case pos =>
  rw [if_pos c5] at H
  have c5b0:decide (65580<(a2.size:Int))=true:=decide_eq_true c5
  have c5b1:decide (65580<a2.size)=true:=decide_eq_true (by omega)
  clear c5
  simp only [Option.some.injEq,Prod.mk.injEq] at H
  obtain ⟨rfl,rfl⟩:=H
  go_enter Tryd.func33,Tryd.ntmps33
  go_wp2
  go_ret2
  exact ⟨by first|rfl|(simp [errW_none,errW_some]<;>rfl)|(simp [*,errW_none,errW_some]<;>rfl),by repeat (first|(with_reducible first|exact HB.out|apply zA|apply zN|apply zD)|exact HB.out)⟩
 rw [if_neg c5] at H
 have c5b0:decide (65580<(a2.size:Int))=false:=decide_eq_false c5
 have c5b1:decide (65580<a2.size)=false:=decide_eq_false (by omega)
 clear c5
 replace H:=Option.bind_eq_some_iff.mp H
 obtain ⟨t281,A60,H⟩:=H
 replace H:(if 0≤(wrap64 ((a2.size:Int) - 32)) then (if (wrap64 ((a2.size:Int) - 32))≤(a2.size:Int) then ((hmac_Mac.f t281 (a2.extract 0 ((wrap64 ((a2.size:Int) - 32)):Int).toNat)).bind fun t282=>((hmac_Equal.f k t282 (a2.extract ((wrap64 ((a2.size:Int) - 32)):Int).toNat a2.size)).bind fun t283=>(if t283=true then ((derive_Cipher.f a0 a1).bind fun t284=>(if 0≤12 then (if 12≤(a2.size:Int) then (if 12≤(wrap64 ((a2.size:Int) - 32)) then ((ctr_Cipher.f k t284 (a2.extract 0 12) (a2.extract 12 ((wrap64 ((a2.size:Int) - 32)):Int).toNat)).bind fun t285=>(some (t285,0))) else (none)) else (none)) else (none))) else (some ((⟨#[]⟩:ByteArray),20))))) else (none)) else (none))=some (r1,r2):=H
 have A6:=zK A60
 clear A60
 obtain ⟨ji7,hji7⟩:∃ j_:Int,(wrap64 ((a2.size:Int) - 32))=j_:=⟨_,rfl⟩
 replace H:(if 0≤(ji7) then (if (ji7)≤(a2.size:Int) then ((hmac_Mac.f t281 (a2.extract 0 ((ji7):Int).toNat)).bind fun t282=>((hmac_Equal.f k t282 (a2.extract ((ji7):Int).toNat a2.size)).bind fun t283=>(if t283=true then ((derive_Cipher.f a0 a1).bind fun t284=>(if 0≤12 then (if 12≤(a2.size:Int) then (if 12≤(ji7) then ((ctr_Cipher.f k t284 (a2.extract 0 12) (a2.extract 12 ((ji7):Int).toNat)).bind fun t285=>(some (t285,0))) else (none)) else (none)) else (none))) else (some ((⟨#[]⟩:ByteArray),20))))) else (none)) else (none))=some (r1,r2):=by first|(rw [hji7] at H; exact H)|(simp only [hji7] at H ⊢; exact H)
 (try rw [hji7] at A6)
 have hji7w:(IntKind.i64.wrap ((a2.size:Int) - 32))=ji7:=(i64_w _).trans hji7
 by_cases c8:0≤(ji7)
 case neg =>
  rw [if_neg c8] at H
  exact absurd H (by simp)
 rw [if_pos c8] at H
 have c8b0:=eq_true c8
 have c8b1:decide (0≤(ji7))=true:=decide_eq_true c8
 clear c8
 by_cases c9:(ji7)≤(a2.size:Int)
 case neg =>
  rw [if_neg c9] at H
  exact absurd H (by simp)
 rw [if_pos c9] at H
 have c9b0:=eq_true c9
 have c9b1:decide ((ji7)≤(a2.size:Int))=true:=decide_eq_true c9
 clear c9
 replace H:=Option.bind_eq_some_iff.mp H
 obtain ⟨t282,A100,H⟩:=H
 replace H:((hmac_Equal.f k t282 (a2.extract ((ji7):Int).toNat a2.size)).bind fun t283=>(if t283=true then ((derive_Cipher.f a0 a1).bind fun t284=>(if 0≤12 then (if 12≤(a2.size:Int) then (if 12≤(ji7) then ((ctr_Cipher.f k t284 (a2.extract 0 12) (a2.extract 12 ((ji7):Int).toNat)).bind fun t285=>(some (t285,0))) else (none)) else (none)) else (none))) else (some ((⟨#[]⟩:ByteArray),20))))=some (r1,r2):=H
 have A10:=zK A100
 clear A100
 have c11b0:=eq_true (of_decide_eq_true (by first|(with_reducible assumption)|assumption):0≤(ji7))
 have c12b0:=eq_true (of_decide_eq_true (by first|(with_reducible assumption)|assumption):(ji7)≤(a2.size:Int))
 replace H:=Option.bind_eq_some_iff.mp H
 obtain ⟨t283,A130,H⟩:=H
 replace H:(if t283=true then ((derive_Cipher.f a0 a1).bind fun t284=>(if 0≤12 then (if 12≤(a2.size:Int) then (if 12≤(ji7) then ((ctr_Cipher.f k t284 (a2.extract 0 12) (a2.extract 12 ((ji7):Int).toNat)).bind fun t285=>(some (t285,0))) else (none)) else (none)) else (none))) else (some ((⟨#[]⟩:ByteArray),20)))=some (r1,r2):=H
 have A13:=zK A130
 clear A130
 by_cases c14:t283=true
 case neg =>
  replace c14:=Bool.eq_false_iff.mpr c14
  subst c14
  have H1:(some ((⟨#[]⟩:ByteArray),20))=some (r1,r2):=by rw [if_neg (show ¬ (false=true) by decide)] at H; exact H
  clear H
  have H:=H1
  clear H1
  simp only [Option.some.injEq,Prod.mk.injEq] at H
  obtain ⟨rfl,rfl⟩:=H
  go_enter Tryd.func33,Tryd.ntmps33
  try go_wp2
  have n0_:=zK (zD HB.out)
  clear HB
  have HB:=n0_
  clear n0_
  refine start_ (n:=13) (S:=fun w'=>True) (ds:=[]) #[G,G,G,G,G,G,G,G,G,G,G,G,G] (by kernel_rfl) rfl rfl trivial (fun hHeld=>?_); refine with_tabW seal_Open.tab6 seal_Open.bits6 (fun HT_ HW_=>?_)
  generalize w.drew=w27 at HB hHeld ⊢
  refine zq 0 (some 21) ?_ #[O,G,G,G,G,G,G,G,G,G,G,G,G] rfl rfl (any_of HT_.out (by kernel_rfl)) (fun _ _ _ h=>h) (Or.inl ⟨by rfl,?_⟩) ?_ ?_ ?_
  rotate_left;(intro w';go_simp;with_reducible rfl);rotate_left;(simp only [Act.put,zp];rfl)
  refine zq 1 (some 22) ?_ #[O,O,G,G,G,G,G,G,G,G,G,G,G] rfl rfl (any_of HT_.out (by kernel_rfl)) (fun _ _ _ h=>h) (Or.inl ⟨by rfl,?_⟩) ?_ ?_ ?_
  rotate_left;(intro w';go_simp;with_reducible rfl);rotate_left;(simp only [Act.put,zp];rfl)
  refine zq 3 (some 24) ?_ #[O,O,G,O,G,G,G,G,G,G,G,G,G] rfl rfl (any_of HT_.out (by kernel_rfl)) (fun _ _ _ h=>h) (Or.inl ⟨by rfl,?_⟩) ?_ ?_ ?_
  rotate_left;(intro w';go_simp;with_reducible rfl);rotate_left;(simp only [Act.put,zp];rfl)
  refine zq 4 (some 25) ?_ #[O,O,G,O,O,G,G,G,G,G,G,G,G] rfl rfl (any_of HT_.out (by kernel_rfl)) (fun _ _ _ h=>h) (Or.inl ⟨by rfl,?_⟩) ?_ ?_ ?_
  rotate_left;(intro w';go_simp;with_reducible rfl);rotate_left;(simp only [Act.put,zp];rfl)
  refine zq 5 (some 26) ?_ #[O,O,G,O,O,O,G,G,G,G,G,G,G] rfl rfl (any_of HT_.out (by kernel_rfl)) (fun _ _ _ h=>h) (Or.inl ⟨by rfl,?_⟩) ?_ ?_ ?_
  rotate_left;(intro w';go_simp;with_reducible rfl);rotate_left;(simp only [Act.put,zp];rfl)
  refine zq 7 (some 28) ?_ #[O,O,G,O,O,O,G,O,G,G,G,G,G] rfl rfl (any_of HT_.out (by kernel_rfl)) (fun _ _ _ h=>h) (Or.inl ⟨by rfl,?_⟩) ?_ ?_ ?_
  rotate_left;(intro w';go_simp;with_reducible rfl);rotate_left;(simp only [Act.put,zp];rfl)
  refine zq 8 (some 29) ?_ #[O,O,G,O,O,O,G,O,O,G,G,G,G] rfl rfl (any_of HT_.out (by kernel_rfl)) (fun _ _ _ h=>h) (Or.inl ⟨by rfl,?_⟩) ?_ ?_ ?_
  rotate_left;(intro w';go_simp;with_reducible rfl);rotate_left;(simp only [Act.put,zp];rfl)
  refine zq 9 (some 30) ?_ #[O,O,G,O,O,O,G,O,O,O,G,G,G] rfl rfl (any_of HT_.out (by kernel_rfl)) (fun _ _ _ h=>h) (Or.inl ⟨by rfl,?_⟩) ?_ ?_ ?_
  rotate_left;(intro w';go_simp;with_reducible rfl);rotate_left;(simp only [Act.put,zp];rfl)
  refine one_ (i:=2) (N:=some 23) #[O,O,O,O,O,O,G,O,O,O,G,G,G] rfl rfl (one_of HT_.out (by kernel_rfl)) (by decide) (fun K hK=>?_)
  refine goes_ Tryd.func32 (by kernel_rfl) rfl #[.string a0,.int .i64 a1] (by rfl) rfl rfl (by (try simp only [zm]); first|done|rfl|(simp only [zl]; rfl)) ?_
  with_reducible refine (derive_Sum.calls (gw:=?sideG) a0 a1 t281 _ A6.out).mono ?_
  (case sideG=>exact GW.below HG.out (by repeat (first|(with_reducible first|exact HB.out|apply zA|apply zN|apply zD)|exact HB.out)))
  rintro e w28 ⟨rfl,hb⟩
  refine ⟨_,rfl,?_⟩
  have n0_:=zK (below_step (by repeat (first|(with_reducible first|exact HB.out|apply zA|apply zN|apply zD)|exact HB.out)) hb)
  clear HB
  have HB:=n0_
  clear n0_
  (try clear hb)
  (try clear hb2)
  (try clear hk)
  (try clear hi)
  refine hK.out _ _ trivial (fun hHeld=>?_)
  clear hK K
  refine norm_ (a':=?_) ?_ ?_
  rotate_left
  ·show Act.put _ (some 23) _=_
   simp only [Act.put,zp]
   rfl
  refine one_ (i:=6) (N:=some 27) #[O,O,O,O,O,O,O,O,O,O,G,G,G] rfl rfl (one_of HT_.out (by kernel_rfl)) (by decide) (fun K hK=>?_)
  refine goes_ Tryd.func31 (by kernel_rfl) rfl #[.string t281,.string (a2.extract 0 ((ji7):Int).toNat)] (by rfl) rfl rfl (by (try simp only [zm]); first|done|(simp only [hji7]; rfl)|rfl|(simp only [zl]; rfl)) ?_
  with_reducible refine (hmac_Mac.calls (gw:=?sideG) t281 (a2.extract 0 ((ji7):Int).toNat) t282 _ A10.out).mono ?_
  (case sideG=>exact GW.below HG.out (by repeat (first|(with_reducible first|exact HB.out|apply zA|apply zN|apply zD)|exact HB.out)))
  rintro e w29 ⟨rfl,hb⟩
  refine ⟨_,rfl,?_⟩
  have n0_:=zK (below_step (by repeat (first|(with_reducible first|exact HB.out|apply zA|apply zN|apply zD)|exact HB.out)) hb)
  clear HB
  have HB:=n0_
  clear n0_
  (try clear hb)
  (try clear hb2)
  (try clear hk)
  (try clear hi)
  refine hK.out _ _ trivial (fun hHeld=>?_)
  clear hK K
  refine norm_ (a':=?_) ?_ ?_
  rotate_left
  ·show Act.put _ (some 27) _=_
   simp only [Act.put,zp]
   rfl
  refine one_ (i:=10) (N:=some 31) #[O,O,O,O,O,O,O,O,O,O,O,G,G] rfl rfl (one_of HT_.out (by kernel_rfl)) (by decide) (fun K hK=>?_)
  refine goes_ Tryd.func39 (by kernel_rfl) rfl #[.string t282,.string (a2.extract ((ji7):Int).toNat a2.size)] (by rfl) rfl rfl (by (try simp only [zm]); first|done|(simp only [hji7]; rfl)|rfl|(simp only [zl]; rfl)) ?_
  with_reducible refine (hmac_Equal.calls k t282 (a2.extract ((ji7):Int).toNat a2.size) false _ A13.out).mono ?_
  rintro e w' ⟨rfl,⟨nd,rfl⟩⟩
  refine ⟨_,rfl,?_⟩
  refine hK.out _ _ trivial (fun hHeld=>?_)
  clear hK K
  refine norm_ (a':=?_) ?_ ?_
  rotate_left
  ·show Act.put _ (some 31) _=_
   simp only [Act.put,zp]
   rfl
  refine zq 11 (some 32) ?_ #[O,O,O,O,O,O,O,O,O,O,O,O,G] rfl rfl (any_of HT_.out (by kernel_rfl)) (fun _ _ _ h=>h) (Or.inl ⟨by rfl,?_⟩) ?_ ?_ ?_
  rotate_left;(intro w';go_simp;with_reducible rfl);rotate_left;(simp only [Act.put,zp];rfl)
  refine zq 12 (some 20) ?_ #[O,O,O,O,O,O,O,O,O,O,O,O,O] rfl rfl (any_of HT_.out (by kernel_rfl)) (fun _ _ _ h=>h) (Or.inl ⟨by rfl,?_⟩) ?_ ?_ ?_
  rotate_left;(intro w';go_simp;with_reducible rfl);rotate_left;(simp only [Act.put,zp];rfl)
  refine done_ (done_of HT_.out (by kernel_rfl)) ?_
  try go_wp2
  go_ret2
  exact ⟨by first|rfl|(simp [errW_none,errW_some]<;>rfl)|(simp only [← hji7]; first|rfl|(simp [errW_none,errW_some]<;>rfl))|(simp [*,errW_none,errW_some]<;>rfl),by repeat (first|(with_reducible first|exact HB.out|apply zA|apply zN|apply zD)|exact HB.out)⟩
 subst c14
 have H1:((derive_Cipher.f a0 a1).bind fun t284=>(if 0≤12 then (if 12≤(a2.size:Int) then (if 12≤(ji7) then ((ctr_Cipher.f k t284 (a2.extract 0 12) (a2.extract 12 ((ji7):Int).toNat)).bind fun t285=>(some (t285,0))) else (none)) else (none)) else (none)))=some (r1,r2):=by rw [if_pos rfl] at H; exact H
 clear H
 have H:=H1
 clear H1
 replace H:=Option.bind_eq_some_iff.mp H
 obtain ⟨t284,A150,H⟩:=H
 replace H:(if 0≤12 then (if 12≤(a2.size:Int) then (if 12≤(ji7) then ((ctr_Cipher.f k t284 (a2.extract 0 12) (a2.extract 12 ((ji7):Int).toNat)).bind fun t285=>(some (t285,0))) else (none)) else (none)) else (none))=some (r1,r2):=H
 have A15:=zK A150
 clear A150
 by_cases c16:0≤12
 case neg =>
  rw [if_neg c16] at H
  exact absurd H (by simp)
 rw [if_pos c16] at H
 have c16b0:=eq_true c16
 have c16b1:decide (0≤12)=true:=decide_eq_true c16
 clear c16
 by_cases c17:12≤(a2.size:Int)
 case neg =>
  rw [if_neg c17] at H
  exact absurd H (by simp)
 rw [if_pos c17] at H
 have c17b0:=eq_true c17
 have c17b1:decide (12≤(a2.size:Int))=true:=decide_eq_true c17
 clear c17
 by_cases c18:12≤(ji7)
 case neg =>
  rw [if_neg c18] at H
  exact absurd H (by simp)
 rw [if_pos c18] at H
 have c18b0:=eq_true c18
 have c18b1:decide (12≤(ji7))=true:=decide_eq_true c18
 clear c18
 have c19b0:=eq_true (of_decide_eq_true (by first|(with_reducible assumption)|assumption):(ji7)≤(a2.size:Int))
 replace H:=Option.bind_eq_some_iff.mp H
 obtain ⟨t285,A200,H⟩:=H
 replace H:(some (t285,0))=some (r1,r2):=H
 have A20:=zK A200
 clear A200
 simp only [Option.some.injEq,Prod.mk.injEq] at H
 obtain ⟨rfl,rfl⟩:=H
 go_enter Tryd.func33,Tryd.ntmps33
 try go_wp2
 have n0_:=zK (zD HB.out)
 clear HB
 have HB:=n0_
 clear n0_
 refine start_ (n:=13) (S:=fun w'=>True) (ds:=[]) #[G,G,G,G,G,G,G,G,G,G,G,G,G] (by kernel_rfl) rfl rfl trivial (fun hHeld=>?_); refine with_tabW seal_Open.tab6 seal_Open.bits6 (fun HT_ HW_=>?_)
 generalize w.drew=w21 at HB hHeld ⊢
 refine zq 0 (some 21) ?_ #[O,G,G,G,G,G,G,G,G,G,G,G,G] rfl rfl (any_of HT_.out (by kernel_rfl)) (fun _ _ _ h=>h) (Or.inl ⟨by rfl,?_⟩) ?_ ?_ ?_
 rotate_left;(intro w';go_simp;with_reducible rfl);rotate_left;(simp only [Act.put,zp];rfl)
 refine zq 1 (some 22) ?_ #[O,O,G,G,G,G,G,G,G,G,G,G,G] rfl rfl (any_of HT_.out (by kernel_rfl)) (fun _ _ _ h=>h) (Or.inl ⟨by rfl,?_⟩) ?_ ?_ ?_
 rotate_left;(intro w';go_simp;with_reducible rfl);rotate_left;(simp only [Act.put,zp];rfl)
 refine zq 3 (some 24) ?_ #[O,O,G,O,G,G,G,G,G,G,G,G,G] rfl rfl (any_of HT_.out (by kernel_rfl)) (fun _ _ _ h=>h) (Or.inl ⟨by rfl,?_⟩) ?_ ?_ ?_
 rotate_left;(intro w';go_simp;with_reducible rfl);rotate_left;(simp only [Act.put,zp];rfl)
 refine zq 4 (some 25) ?_ #[O,O,G,O,O,G,G,G,G,G,G,G,G] rfl rfl (any_of HT_.out (by kernel_rfl)) (fun _ _ _ h=>h) (Or.inl ⟨by rfl,?_⟩) ?_ ?_ ?_
 rotate_left;(intro w';go_simp;with_reducible rfl);rotate_left;(simp only [Act.put,zp];rfl)
 refine zq 5 (some 26) ?_ #[O,O,G,O,O,O,G,G,G,G,G,G,G] rfl rfl (any_of HT_.out (by kernel_rfl)) (fun _ _ _ h=>h) (Or.inl ⟨by rfl,?_⟩) ?_ ?_ ?_
 rotate_left;(intro w';go_simp;with_reducible rfl);rotate_left;(simp only [Act.put,zp];rfl)
 refine zq 7 (some 28) ?_ #[O,O,G,O,O,O,G,O,G,G,G,G,G] rfl rfl (any_of HT_.out (by kernel_rfl)) (fun _ _ _ h=>h) (Or.inl ⟨by rfl,?_⟩) ?_ ?_ ?_
 rotate_left;(intro w';go_simp;with_reducible rfl);rotate_left;(simp only [Act.put,zp];rfl)
 refine zq 8 (some 29) ?_ #[O,O,G,O,O,O,G,O,O,G,G,G,G] rfl rfl (any_of HT_.out (by kernel_rfl)) (fun _ _ _ h=>h) (Or.inl ⟨by rfl,?_⟩) ?_ ?_ ?_
 rotate_left;(intro w';go_simp;with_reducible rfl);rotate_left;(simp only [Act.put,zp];rfl)
 refine zq 9 (some 30) ?_ #[O,O,G,O,O,O,G,O,O,O,G,G,G] rfl rfl (any_of HT_.out (by kernel_rfl)) (fun _ _ _ h=>h) (Or.inl ⟨by rfl,?_⟩) ?_ ?_ ?_
 rotate_left;(intro w';go_simp;with_reducible rfl);rotate_left;(simp only [Act.put,zp];rfl)
 refine one_ (i:=2) (N:=some 23) #[O,O,O,O,O,O,G,O,O,O,G,G,G] rfl rfl (one_of HT_.out (by kernel_rfl)) (by decide) (fun K hK=>?_)
 refine goes_ Tryd.func32 (by kernel_rfl) rfl #[.string a0,.int .i64 a1] (by rfl) rfl rfl (by (try simp only [zm]); first|done|rfl|(simp only [zl]; rfl)) ?_
 with_reducible refine (derive_Sum.calls (gw:=?sideG) a0 a1 t281 _ A6.out).mono ?_
 (case sideG=>exact GW.below HG.out (by repeat (first|(with_reducible first|exact HB.out|apply zA|apply zN|apply zD)|exact HB.out)))
 rintro e w22 ⟨rfl,hb⟩
 refine ⟨_,rfl,?_⟩
 have n0_:=zK (below_step (by repeat (first|(with_reducible first|exact HB.out|apply zA|apply zN|apply zD)|exact HB.out)) hb)
 clear HB
 have HB:=n0_
 clear n0_
 (try clear hb)
 (try clear hb2)
 (try clear hk)
 (try clear hi)
 refine hK.out _ _ trivial (fun hHeld=>?_)
 clear hK K
 refine norm_ (a':=?_) ?_ ?_
 rotate_left
 ·show Act.put _ (some 23) _=_
  simp only [Act.put,zp]
  rfl
 refine one_ (i:=6) (N:=some 27) #[O,O,O,O,O,O,O,O,O,O,G,G,G] rfl rfl (one_of HT_.out (by kernel_rfl)) (by decide) (fun K hK=>?_)
 refine goes_ Tryd.func31 (by kernel_rfl) rfl #[.string t281,.string (a2.extract 0 ((ji7):Int).toNat)] (by rfl) rfl rfl (by (try simp only [zm]); first|done|(simp only [hji7]; rfl)|rfl|(simp only [zl]; rfl)) ?_
 with_reducible refine (hmac_Mac.calls (gw:=?sideG) t281 (a2.extract 0 ((ji7):Int).toNat) t282 _ A10.out).mono ?_
 (case sideG=>exact GW.below HG.out (by repeat (first|(with_reducible first|exact HB.out|apply zA|apply zN|apply zD)|exact HB.out)))
 rintro e w23 ⟨rfl,hb⟩
 refine ⟨_,rfl,?_⟩
 have n0_:=zK (below_step (by repeat (first|(with_reducible first|exact HB.out|apply zA|apply zN|apply zD)|exact HB.out)) hb)
 clear HB
 have HB:=n0_
 clear n0_
 (try clear hb)
 (try clear hb2)
 (try clear hk)
 (try clear hi)
 refine hK.out _ _ trivial (fun hHeld=>?_)
 clear hK K
 refine norm_ (a':=?_) ?_ ?_
 rotate_left
 ·show Act.put _ (some 27) _=_
  simp only [Act.put,zp]
  rfl
 refine one_ (i:=10) (N:=some 31) #[O,O,O,O,O,O,O,O,O,O,O,G,G] rfl rfl (one_of HT_.out (by kernel_rfl)) (by decide) (fun K hK=>?_)
 refine goes_ Tryd.func39 (by kernel_rfl) rfl #[.string t282,.string (a2.extract ((ji7):Int).toNat a2.size)] (by rfl) rfl rfl (by (try simp only [zm]); first|done|(simp only [hji7]; rfl)|rfl|(simp only [zl]; rfl)) ?_
 with_reducible refine (hmac_Equal.calls k t282 (a2.extract ((ji7):Int).toNat a2.size) true _ A13.out).mono ?_
 rintro e w' ⟨rfl,⟨nd,rfl⟩⟩
 refine ⟨_,rfl,?_⟩
 refine hK.out _ _ trivial (fun hHeld=>?_)
 clear hK K
 refine norm_ (a':=?_) ?_ ?_
 rotate_left
 ·show Act.put _ (some 31) _=_
  simp only [Act.put,zp]
  rfl
 refine zq 11 (some 32) ?_ #[O,O,O,O,O,O,O,O,O,O,O,O,G] rfl rfl (any_of HT_.out (by kernel_rfl)) (fun _ _ _ h=>h) (Or.inl ⟨by rfl,?_⟩) ?_ ?_ ?_
 rotate_left;(intro w';go_simp;with_reducible rfl);rotate_left;(simp only [Act.put,zp];rfl)
 refine zq 12 (some 20) ?_ #[O,O,O,O,O,O,O,O,O,O,O,O,O] rfl rfl (any_of HT_.out (by kernel_rfl)) (fun _ _ _ h=>h) (Or.inl ⟨by rfl,?_⟩) ?_ ?_ ?_
 rotate_left;(intro w';go_simp;with_reducible rfl);rotate_left;(simp only [Act.put,zp];rfl)
 refine done_ (done_of HT_.out (by kernel_rfl)) ?_
 try go_wp2
 (try (rw [drewN_self w23]; generalize hq_:World.drewN w23 _=w23; have n0_:Aside0 (Below w.heap.size w w23):=⟨by rw [← hq_]; exact (by repeat (first|(with_reducible first|exact HB.out|apply zA|apply zN|apply zD)|exact HB.out))⟩; clear HB hq_; have HB:=n0_; clear n0_))
 have n0_:=zK (zD HB.out)
 clear HB
 have HB:=n0_
 clear n0_
 refine start_ (n:=11) (S:=fun w'=>True) (ds:=[]) #[G,G,G,G,G,G,G,G,G,G,G] (by kernel_rfl) rfl rfl trivial (fun hHeld=>?_); refine with_tabW seal_Open.tab8 seal_Open.bits8 (fun HT_ HW_=>?_)
 generalize w23.drew=w24 at HB hHeld ⊢
 refine zq 0 (some 33) ?_ #[O,G,G,G,G,G,G,G,G,G,G] rfl rfl (any_of HT_.out (by kernel_rfl)) (fun _ _ _ h=>h) (Or.inl ⟨by rfl,?_⟩) ?_ ?_ ?_
 rotate_left;(intro w';go_simp;with_reducible rfl);rotate_left;(simp only [Act.put,zp];rfl)
 refine zq 1 (some 34) ?_ #[O,O,G,G,G,G,G,G,G,G,G] rfl rfl (any_of HT_.out (by kernel_rfl)) (fun _ _ _ h=>h) (Or.inl ⟨by rfl,?_⟩) ?_ ?_ ?_
 rotate_left;(intro w';go_simp;with_reducible rfl);rotate_left;(simp only [Act.put,zp];rfl)
 refine zq 3 (some 36) ?_ #[O,O,G,O,G,G,G,G,G,G,G] rfl rfl (any_of HT_.out (by kernel_rfl)) (fun _ _ _ h=>h) (Or.inl ⟨by rfl,?_⟩) ?_ ?_ ?_
 rotate_left;(intro w';go_simp;with_reducible rfl);rotate_left;(simp only [Act.put,zp];rfl)
 refine zq 4 (some 37) ?_ #[O,O,G,O,O,G,G,G,G,G,G] rfl rfl (any_of HT_.out (by kernel_rfl)) (fun _ _ _ h=>h) (Or.inl ⟨by rfl,?_⟩) ?_ ?_ ?_
 rotate_left;(intro w';go_simp;with_reducible rfl);rotate_left;(simp only [Act.put,zp];rfl)
 refine zq 5 (some 38) ?_ #[O,O,G,O,O,O,G,G,G,G,G] rfl rfl (any_of HT_.out (by kernel_rfl)) (fun _ _ _ h=>h) (Or.inl ⟨by rfl,?_⟩) ?_ ?_ ?_
 rotate_left;(intro w';go_simp;with_reducible rfl);rotate_left;(simp only [Act.put,zp];rfl)
 refine zq 6 (some 39) ?_ #[O,O,G,O,O,O,O,G,G,G,G] rfl rfl (any_of HT_.out (by kernel_rfl)) (fun _ _ _ h=>h) (Or.inl ⟨by rfl,?_⟩) ?_ ?_ ?_
 rotate_left;(intro w';go_simp;with_reducible rfl);rotate_left;(simp only [Act.put,zp];rfl)
 refine zq 7 (some 40) ?_ #[O,O,G,O,O,O,O,O,G,G,G] rfl rfl (any_of HT_.out (by kernel_rfl)) (fun _ _ _ h=>h) (Or.inl ⟨by rfl,?_⟩) ?_ ?_ ?_
 rotate_left;(intro w';go_simp;with_reducible rfl);rotate_left;(simp only [Act.put,zp];rfl)
 refine one_ (i:=2) (N:=some 35) #[O,O,O,O,O,O,O,O,G,G,G] rfl rfl (one_of HT_.out (by kernel_rfl)) (by decide) (fun K hK=>?_)
 refine goes_ Tryd.func43 (by kernel_rfl) rfl #[.string a0,.int .i64 a1] (by rfl) rfl rfl (by (try simp only [zm]); first|done|rfl|(simp only [zl]; rfl)) ?_
 with_reducible refine (derive_Cipher.calls (gw:=?sideG) a0 a1 t284 _ A15.out).mono ?_
 (case sideG=>exact GW.below HG.out (by repeat (first|(with_reducible first|exact HB.out|apply zA|apply zN|apply zD)|exact HB.out)))
 rintro e w25 ⟨rfl,hb⟩
 refine ⟨_,rfl,?_⟩
 have n0_:=zK (below_step (by repeat (first|(with_reducible first|exact HB.out|apply zA|apply zN|apply zD)|exact HB.out)) hb)
 clear HB
 have HB:=n0_
 clear n0_
 (try clear hb)
 (try clear hb2)
 (try clear hk)
 (try clear hi)
 refine hK.out _ _ trivial (fun hHeld=>?_)
 clear hK K
 refine norm_ (a':=?_) ?_ ?_
 rotate_left
 ·show Act.put _ (some 35) _=_
  simp only [Act.put,zp]
  rfl
 refine one_ (i:=8) (N:=some 41) #[O,O,O,O,O,O,O,O,O,G,G] rfl rfl (one_of HT_.out (by kernel_rfl)) (by decide) (fun K hK=>?_)
 refine goes_ Tryd.func65 (by kernel_rfl) rfl #[.string t284,.string (a2.extract 0 12),.string (a2.extract 12 ((ji7):Int).toNat)] (by rfl) rfl rfl (by (try simp only [zm]); first|done|(simp only [hji7]; rfl)|rfl|(simp only [zl]; rfl)) ?_
 with_reducible refine (ctr_Cipher.calls k t284 (a2.extract 0 12) (a2.extract 12 ((ji7):Int).toNat) t285 _ A20.out).mono ?_
 rintro e w26 ⟨rfl,hb⟩
 refine ⟨_,rfl,?_⟩
 have n0_:=zK (below_step (by repeat (first|(with_reducible first|exact HB.out|apply zA|apply zN|apply zD)|exact HB.out)) hb)
 clear HB
 have HB:=n0_
 clear n0_
 (try clear hb)
 (try clear hb2)
 (try clear hk)
 (try clear hi)
 refine hK.out _ _ trivial (fun hHeld=>?_)
 clear hK K
 refine norm_ (a':=?_) ?_ ?_
 rotate_left
 ·show Act.put _ (some 41) _=_
  simp only [Act.put,zp]
  rfl
 refine zq 9 (some 6) ?_ #[O,O,O,O,O,O,O,O,O,O,G] rfl rfl (any_of HT_.out (by kernel_rfl)) (fun _ _ _ h=>h) (Or.inl ⟨by rfl,?_⟩) ?_ ?_ ?_
 rotate_left;(intro w';go_simp;with_reducible rfl);rotate_left;(simp only [Act.put,zp];rfl)
 refine zq 10 (some 7) ?_ #[O,O,O,O,O,O,O,O,O,O,O] rfl rfl (any_of HT_.out (by kernel_rfl)) (fun _ _ _ h=>h) (Or.inl ⟨by rfl,?_⟩) ?_ ?_ ?_
 rotate_left;(intro w';go_simp;with_reducible rfl);rotate_left;(simp only [Act.put,zp];rfl)
 refine done_ (done_of HT_.out (by kernel_rfl)) ?_
 try go_wp2
 go_ret2
 exact ⟨by first|rfl|(simp [errW_none,errW_some]<;>rfl)|(simp only [← hji7]; first|rfl|(simp [errW_none,errW_some]<;>rfl))|(simp [*,errW_none,errW_some]<;>rfl),by repeat (first|(with_reducible first|exact HB.out|apply zA|apply zN|apply zD)|exact HB.out)⟩
def seal_Sum.f (a0:ByteArray) (a1:Int) (a2:ByteArray):Option (ByteArray):=(derive_Key.f a0 a1 (⟨#[99,104,101,99,107]⟩:ByteArray)).bind fun t286=>((hmac_Mac.f t286 a2).bind fun t287=>(some t287))
set_option maxHeartbeats 8000000 in
set_option maxRecDepth 100000 in
theorem seal_Sum.calls (a0:ByteArray) (a1:Int) (a2:ByteArray) (r:ByteArray) (w:World) {gw:GW w} (h:seal_Sum.f a0 a1 a2=some r) :
 Calls Tryd.prog 54 #[.string a0,.int .i64 a1,.string a2] w fun e w'=>e=.returned (.string r)∧Below w.heap.size w w':=by
 have HG:=zK gw
 clear gw
 have HB:=zK (Below.refl w.heap.size w)
 have H:((derive_Key.f a0 a1 (⟨#[99,104,101,99,107]⟩:ByteArray)).bind fun t286=>((hmac_Mac.f t286 a2).bind fun t287=>(some t287)))=some r:=h
 clear h
 replace H:=Option.bind_eq_some_iff.mp H
 obtain ⟨t286,A40,H⟩:=H
 replace H:((hmac_Mac.f t286 a2).bind fun t287=>(some t287))=some r:=H
 have A4:=zK A40
 clear A40
 replace H:=Option.bind_eq_some_iff.mp H
 obtain ⟨t287,A50,H⟩:=H
 replace H:(some t287)=some r:=H
 have A5:=zK A50
 clear A50
 obtain rfl:=Option.some.inj H
 go_enter Tryd.func54,Tryd.ntmps54
 go_wp2_with (first|((with_reducible refine gate_callee (f:=41) rfl ?_); refine goesL_ (some 9) rfl rfl Tryd.func41 (by kernel_rfl) rfl #[.string a0,.int .i64 a1,.string (⟨#[99,104,101,99,107]⟩:ByteArray)] rfl (by (try simp only [zm]); first|done|rfl|(simp only [zl]; rfl)) ?_; (with_reducible refine (derive_Key.calls (gw:=?sideG) a0 a1 (⟨#[99,104,101,99,107]⟩:ByteArray) t286 _ A4.out).mono ?_); (case sideG=>exact GW.below HG.out (by repeat (first|(with_reducible first|exact HB.out|apply zA|apply zN|apply zD)|exact HB.out))); rintro e w6 ⟨rfl,hb⟩; refine ⟨_,rfl,?_⟩; have n0_:=zK (below_step (by repeat (first|(with_reducible first|exact HB.out|apply zA|apply zN|apply zD)|exact HB.out)) hb); clear HB; have HB:=n0_; clear n0_; (try clear hb); (try clear hb2); (try clear hk); (try clear hi))|((with_reducible refine gate_callee (f:=31) rfl ?_); refine goesL_ (some 11) rfl rfl Tryd.func31 (by kernel_rfl) rfl #[.string t286,.string a2] rfl (by (try simp only [zm]); first|done|rfl|(simp only [zl]; rfl)) ?_; (with_reducible refine (hmac_Mac.calls (gw:=?sideG) t286 a2 t287 _ A5.out).mono ?_); (case sideG=>exact GW.below HG.out (by repeat (first|(with_reducible first|exact HB.out|apply zA|apply zN|apply zD)|exact HB.out))); rintro e w7 ⟨rfl,hb⟩; refine ⟨_,rfl,?_⟩; have n0_:=zK (below_step (by repeat (first|(with_reducible first|exact HB.out|apply zA|apply zN|apply zD)|exact HB.out)) hb); clear HB; have HB:=n0_; clear n0_; (try clear hb); (try clear hb2); (try clear hk); (try clear hi)))
 go_ret
 exact ⟨by first|rfl|(simp [errW_none,errW_some]<;>rfl)|(simp [*,errW_none,errW_some]<;>rfl),by repeat (first|(with_reducible first|exact HB.out|apply zA|apply zN|apply zD)|exact HB.out)⟩
end Go.Proofs.YtkgijkfcmbpgpaaDoor.PAll
end
