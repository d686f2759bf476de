import Derived.Test.YtkgijkfcmbpgpaaDoorS2b0
import Derived.Test.YtkgijkfcmbpgpaaDoorS2b1
import Derived.Test.YtkgijkfcmbpgpaaDoorRows
section
namespace Go.Proofs.YtkgijkfcmbpgpaaDoorW.PrintMore
open Go.RowKit Go.Proofs.YtkgijkfcmbpgpaaDoorW.PrintWords
namespace Kd
open Go.Proofs.YtkgijkfcmbpgpaaDoorW.PrintWords.Kd
end Kd
namespace Kd
open Go.Proofs.YtkgijkfcmbpgpaaDoorW.PrintWords.Kd
section
variable {α : Type} {d:Kd α} {e base g N:Nat} {ok:Nat→Prop} {W w1:World} {u v:Value} {xs:List α}
end
end Kd
theorem max2_int (k k':IntKind) (x y:Int):Builtin.max2 (.int k x) (.int k' y)=pure (.int k (if x<y then y else x)):=by simp only [Builtin.max2,gt_iff_lt]
theorem min2_int (k k':IntKind) (x y:Int):Builtin.min2 (.int k x) (.int k' y)=pure (.int k (if y<x then y else x)):=by simp only [Builtin.min2]
theorem max_two (ats:Array TypeId) (ty:TypeId) (a b:Value):Builtin.max_ ats ty #[a,b]=(Builtin.max2 a b >>= fun s=>pure s):=by simp only [Builtin.max_,List.foldlM_cons,List.foldlM_nil]
theorem min_two (ats:Array TypeId) (ty:TypeId) (a b:Value):Builtin.min_ ats ty #[a,b]=(Builtin.min2 a b >>= fun s=>pure s):=by simp only [Builtin.min_,List.foldlM_cons,List.foldlM_nil]
theorem max_three (ats:Array TypeId) (ty:TypeId) (a b c:Value):Builtin.max_ ats ty #[a,b,c]=(Builtin.max2 a b >>= fun s=>Builtin.max2 s c >>= fun s=>pure s):=by simp only [Builtin.max_,List.foldlM_cons,List.foldlM_nil]
theorem min_three (ats:Array TypeId) (ty:TypeId) (a b c:Value):Builtin.min_ ats ty #[a,b,c]=(Builtin.min2 a b >>= fun s=>Builtin.min2 s c >>= fun s=>pure s):=by simp only [Builtin.min_,List.foldlM_cons,List.foldlM_nil]
theorem max_four (ats:Array TypeId) (ty:TypeId) (a b c d:Value):Builtin.max_ ats ty #[a,b,c,d]=(Builtin.max2 a b >>= fun s=>Builtin.max2 s c >>= fun s=>Builtin.max2 s d >>= fun s=>pure s):=by simp only [Builtin.max_,List.foldlM_cons,List.foldlM_nil]
theorem min_four (ats:Array TypeId) (ty:TypeId) (a b c d:Value):Builtin.min_ ats ty #[a,b,c,d]=(Builtin.min2 a b >>= fun s=>Builtin.min2 s c >>= fun s=>Builtin.min2 s d >>= fun s=>pure s):=by simp only [Builtin.min_,List.foldlM_cons,List.foldlM_nil]
end Go.Proofs.YtkgijkfcmbpgpaaDoorW.PrintMore
namespace Go.Proofs.YtkgijkfcmbpgpaaDoorW.PrintWords
open Go.RowKit
section
variable {P:Program} {ops:Array Oper} {rest:List Oper} {o:Oper} {a:Act} {Q:Exit→Act→World→Prop} {W:World}
theorem gate_callee {f:FuncId} {as_:Array Operand} {ts:Array TypeId} (_ho:o.op=.call { callee:=.value (.func f),args:=as_,argTypes:=ts }) (h:wpList P ops Q (o :: rest) a W):wpList P ops Q (o :: rest) a W:=h
theorem gate_builtin {b:Builtin} {xs:Array Operand} {ts:Array TypeId} (_ho:o.op=.call { callee:=.builtin b,args:=xs,argTypes:=ts }) (h:wpList P ops Q (o :: rest) a W):wpList P ops Q (o :: rest) a W:=h
end
def mx (a b:Int):Int:=if a<b then b else a
def shl (k:IntKind) (x y:Int):Int:=k.wrap (x * 2 ^ min y.toNat k.bits)
def shr (k:IntKind) (x y:Int):Int:=x / 2 ^ min y.toNat k.bits
theorem shl_small {k:IntKind} {x y j:Int} (h:shl k x y=j) (hy:y≤k.bits):k.wrap (x * 2 ^ y.toNat)=j:=by rw [← h]; unfold shl; rw [Nat.min_eq_left (by omega)]
theorem shr_small {k:IntKind} {x y j:Int} (h:shr k x y=j) (hy:y≤k.bits):x / 2 ^ y.toNat=j:=by rw [← h]; unfold shr; rw [Nat.min_eq_left (by omega)]
theorem drewN_self (w:World) (n:Nat):w.drewN n=w.drewN n:=rfl
namespace Kd
section
variable {α : Type} {d:Kd α} {e base:Nat} {ok:Nat→Prop} {W w1:World} {v:Value} {xs:List α}
end
section
variable {α : Type} {d:Kd α} {e base g n cap:Nat} {ok oki okp:Nat→Prop} {W:World} {xs:List α} {i:Int} {c:List Value}
end
section
variable {α : Type} {d:Kd α} {e base b b' g N:Nat} {ok ok1:Nat→Prop} {W W2 w1:World} {u v:Value} {xs ys:List α} {S:Nat→Prop}
end
end Kd
end Go.Proofs.YtkgijkfcmbpgpaaDoorW.PrintWords
namespace Go.Proofs.YtkgijkfcmbpgpaaDoorW.PrintWords
open Go.RowKit
namespace Kd
def V {α : Type} (d:Kd α) (_e:Nat) (W:World) (_base:Nat) (ok:Nat→Prop) (v:Value) (xs:List α):Prop:=∃ A c,v=.slice A xs.length c∧xs.length≤c∧F d W ok A xs.length xs
section
variable {α β : Type} {d:Kd α} {e base base' n m c g N' lo hi:Nat} {ok ok' S:Nat→Prop} {w W w1:World} {A:Option Addr} {ad:Addr} {u v v1:Value} {xs:List α}
theorem V_nil (d:Kd α) (e:Nat) (W:World) (base:Nat) (ok:Nat→Prop):V d e W base ok (.slice none 0 0) []:=⟨none,0,rfl,Nat.le_refl _,F_nil d W ok⟩
end
end Kd
end Go.Proofs.YtkgijkfcmbpgpaaDoorW.PrintWords
end
section
namespace Go.Proofs.YtkgijkfcmbpgpaaDoor.PSub
open Go.RowKit Go.Proofs.YtkgijkfcmbpgpaaDoorW.PrintWords Go.Proofs.YtkgijkfcmbpgpaaDoorW.PrintLast Go.Proofs.YtkgijkfcmbpgpaaDoorW.PrintMore
attribute [local go_sem] max2_int min2_int max_two min_two max_three min_three max_four min_four
set_option linter.unusedVariables false
set_option linter.unusedSimpArgs false
def errW:Option Int→Value
  | none=>.nilIface
  | some c=>.iface 0 (.int .i64 c)
theorem errW_none:errW none=.nilIface:=rfl
theorem errW_some (c:Int):errW (some c)=.iface 0 (.int .i64 c):=rfl
end Go.Proofs.YtkgijkfcmbpgpaaDoor.PSub
end
section
namespace Go.Proofs.YtkgijkfcmbpgpaaDoor.PSub
open Go.RowKit Go.Proofs.YtkgijkfcmbpgpaaDoorW.PrintWords Go.Proofs.YtkgijkfcmbpgpaaDoorW.PrintLast Go.Proofs.YtkgijkfcmbpgpaaDoorW.PrintMore
attribute [local go_sem] max2_int min2_int max_two min_two max_three min_three max_four min_four
set_option linter.unusedVariables false
set_option linter.unusedSimpArgs false
def sha_word.f (a0:ByteArray):Option (Int):=if 0<(a0.size:Int) then (if 1<(a0.size:Int) then (if 2<(a0.size:Int) then (if 3<(a0.size:Int) then (some (Go.bits .or .u32 (Go.bits .or .u32 (Go.bits .or .u32 ((((bt a0 0) % 4294967296) * 16777216) % 4294967296) ((((bt a0 1) % 4294967296) * 65536) % 4294967296)) ((((bt a0 2) % 4294967296) * 256) % 4294967296)) ((bt a0 3) % 4294967296))) else (none)) else (none)) else (none)) else (none)
set_option maxHeartbeats 8000000 in
set_option maxRecDepth 100000 in
theorem sha_word.calls (a0:ByteArray) (r:Int) (w:World) (h:sha_word.f a0=some r) :
 Calls Tryd.prog 78 #[.string a0] w fun e w'=>e=.returned (.int .u32 r)∧Drawn0 w w':=by
 have H:(if 0<(a0.size:Int) then (if 1<(a0.size:Int) then (if 2<(a0.size:Int) then (if 3<(a0.size:Int) then (some (Go.bits .or .u32 (Go.bits .or .u32 (Go.bits .or .u32 ((((bt a0 0) % 4294967296) * 16777216) % 4294967296) ((((bt a0 1) % 4294967296) * 65536) % 4294967296)) ((((bt a0 2) % 4294967296) * 256) % 4294967296)) ((bt a0 3) % 4294967296))) else (none)) else (none)) else (none)) else (none))=some r:=h
 clear h
 by_cases c2:0<(a0.size:Int)
 case neg =>
  rw [if_neg c2] at H
  exact absurd H (by simp)
 rw [if_pos c2] at H
 have c2b0:decide (0<(a0.size:Int))=true:=decide_eq_true c2
 have c2b1:decide (0<a0.size)=true:=decide_eq_true (by omega)
 clear c2
 by_cases c4:1<(a0.size:Int)
 case neg =>
  rw [if_neg c4] at H
  exact absurd H (by simp)
 rw [if_pos c4] at H
 have c4b0:decide (1<(a0.size:Int))=true:=decide_eq_true c4
 have c4b1:decide (1<a0.size)=true:=decide_eq_true (by omega)
 clear c4
 by_cases c6:2<(a0.size:Int)
 case neg =>
  rw [if_neg c6] at H
  exact absurd H (by simp)
 rw [if_pos c6] at H
 have c6b0:decide (2<(a0.size:Int))=true:=decide_eq_true c6
 have c6b1:decide (2<a0.size)=true:=decide_eq_true (by omega)
 clear c6
 by_cases c8:3<(a0.size:Int)
 case neg =>
  rw [if_neg c8] at H
  exact absurd H (by simp)
 rw [if_pos c8] at H
 have c8b0:decide (3<(a0.size:Int))=true:=decide_eq_true c8
 have c8b1:decide (3<a0.size)=true:=decide_eq_true (by omega)
 clear c8
 obtain rfl:=Option.some.inj H
 have p3:0≤(0:Int):=(by omega)
 have q3:0<a0.size:=(by have:(0:Int)<(a0.size:Int):=of_decide_eq_true (by first|(with_reducible assumption)|assumption); omega)
 have hx3:∀ h:0<a0.size,((a0[0]'h).toNat:Int)=bt a0 0:=bt_at a0 0
 clear p3
 have qi3:(0<(a0.size:Int))=True:=eq_true (of_decide_eq_true (by first|(with_reducible assumption)|assumption))
 replace q3:=eq_true q3
 have p5:0≤(1:Int):=(by omega)
 have q5:1<a0.size:=(by have:(1:Int)<(a0.size:Int):=of_decide_eq_true (by first|(with_reducible assumption)|assumption); omega)
 have hx5:∀ h:1<a0.size,((a0[1]'h).toNat:Int)=bt a0 1:=bt_at a0 1
 clear p5
 have qi5:(1<(a0.size:Int))=True:=eq_true (of_decide_eq_true (by first|(with_reducible assumption)|assumption))
 replace q5:=eq_true q5
 have p7:0≤(2:Int):=(by omega)
 have q7:2<a0.size:=(by have:(2:Int)<(a0.size:Int):=of_decide_eq_true (by first|(with_reducible assumption)|assumption); omega)
 have hx7:∀ h:2<a0.size,((a0[2]'h).toNat:Int)=bt a0 2:=bt_at a0 2
 clear p7
 have qi7:(2<(a0.size:Int))=True:=eq_true (of_decide_eq_true (by first|(with_reducible assumption)|assumption))
 replace q7:=eq_true q7
 have p9:0≤(3:Int):=(by omega)
 have q9:3<a0.size:=(by have:(3:Int)<(a0.size:Int):=of_decide_eq_true (by first|(with_reducible assumption)|assumption); omega)
 have hx9:∀ h:3<a0.size,((a0[3]'h).toNat:Int)=bt a0 3:=bt_at a0 3
 clear p9
 have qi9:(3<(a0.size:Int))=True:=eq_true (of_decide_eq_true (by first|(with_reducible assumption)|assumption))
 replace q9:=eq_true q9
 go_enter Tryd.func78,Tryd.ntmps78
 go_wp2
 repeat (go_quiet (fail); try go_wp2)
 go_ret
 exact ⟨by first|rfl|(simp; done)|(simp [*]; done),by repeat (first|exact Drawn0.refl _|apply Drawn0.step)⟩
def bits_RotateLeft32.f (a0:Int) (a1:Int):Option (Int):=if 0≤(Go.bits .and .u64 (IntKind.u64.wrap (a1)) 31) then (if 0≤(IntKind.u64.wrap (32 - (Go.bits .and .u64 (IntKind.u64.wrap (a1)) 31))) then (some (Go.bits .or .u32 (shl .u32 a0 (Go.bits .and .u64 (IntKind.u64.wrap (a1)) 31)) (shr .u32 a0 (IntKind.u64.wrap (32 - (Go.bits .and .u64 (IntKind.u64.wrap (a1)) 31)))))) else (none)) else (none)
set_option maxHeartbeats 8000000 in
set_option maxRecDepth 100000 in
theorem bits_RotateLeft32.calls (a0:Int) (a1:Int) (r:Int) (w:World) (h:bits_RotateLeft32.f a0 a1=some r) :
 Calls Tryd.prog 76 #[.int .u32 a0,.int .i64 a1] w fun e w'=>e=.returned (.int .u32 r)∧Drawn0 w w':=by
 have H:(if 0≤(Go.bits .and .u64 (IntKind.u64.wrap (a1)) 31) then (if 0≤(IntKind.u64.wrap (32 - (Go.bits .and .u64 (IntKind.u64.wrap (a1)) 31))) then (some (Go.bits .or .u32 (shl .u32 a0 (Go.bits .and .u64 (IntKind.u64.wrap (a1)) 31)) (shr .u32 a0 (IntKind.u64.wrap (32 - (Go.bits .and .u64 (IntKind.u64.wrap (a1)) 31)))))) else (none)) else (none))=some r:=h
 clear h
 obtain ⟨ji3,hji3⟩:∃ j_:Int,(Go.bits .and .u64 (IntKind.u64.wrap (a1)) 31)=j_:=⟨_,rfl⟩
 replace H:(if 0≤(ji3) then (if 0≤(IntKind.u64.wrap (32 - (ji3))) then (some (Go.bits .or .u32 (shl .u32 a0 (ji3)) (shr .u32 a0 (IntKind.u64.wrap (32 - (ji3)))))) else (none)) else (none))=some r:=by first|(rw [hji3] at H; exact H)|(simp only [hji3] at H ⊢; exact H)
 by_cases c4:0≤(ji3)
 case neg =>
  rw [if_neg c4] at H
  exact absurd H (by simp)
 rw [if_pos c4] at H
 have c4b0:=eq_true c4
 have c4b1:decide (0≤(ji3))=true:=decide_eq_true c4
 clear c4
 obtain ⟨ji5,hji5⟩:∃ j_:Int,(shl .u32 a0 (ji3))=j_:=⟨_,rfl⟩
 replace H:(if 0≤(IntKind.u64.wrap (32 - (ji3))) then (some (Go.bits .or .u32 (ji5) (shr .u32 a0 (IntKind.u64.wrap (32 - (ji3)))))) else (none))=some r:=by first|(rw [hji5] at H; exact H)|(simp only [hji5] at H ⊢; exact H)
 have hji5_:(IntKind.u32.wrap (a0 * 2 ^ min (ji3).toNat 32))=ji5:=hji5
 have hji5z:(ji3)≤32→(IntKind.u32.wrap (a0 * 2 ^ (ji3).toNat))=ji5:=shl_small hji5
 obtain ⟨ji6,hji6⟩:∃ j_:Int,(IntKind.u64.wrap (32 - (ji3)))=j_:=⟨_,rfl⟩
 replace H:(if 0≤(ji6) then (some (Go.bits .or .u32 (ji5) (shr .u32 a0 (ji6)))) else (none))=some r:=by first|(rw [hji6] at H; exact H)|(simp only [hji6] at H ⊢; exact H)
 by_cases c7:0≤(ji6)
 case neg =>
  rw [if_neg c7] at H
  exact absurd H (by simp)
 rw [if_pos c7] at H
 have c7b0:=eq_true c7
 have c7b1:decide (0≤(ji6))=true:=decide_eq_true c7
 clear c7
 obtain ⟨ji8,hji8⟩:∃ j_:Int,(shr .u32 a0 (ji6))=j_:=⟨_,rfl⟩
 replace H:(some (Go.bits .or .u32 (ji5) (ji8)))=some r:=by first|(rw [hji8] at H; exact H)|(simp only [hji8] at H ⊢; exact H)
 have hji8_:(a0 / 2 ^ min (ji6).toNat 32)=ji8:=hji8
 have hji8z:(ji6)≤32→(a0 / 2 ^ (ji6).toNat)=ji8:=shr_small hji8
 obtain rfl:=Option.some.inj H
 go_enter Tryd.func76,Tryd.ntmps76
 go_wp2
 go_ret
 exact ⟨by first|rfl|(simp; done)|(simp only [← hji3,← hji5,← hji6,← hji8]<;>(first|rfl|simp))|(simp [*]; done),by repeat (first|exact Drawn0.refl _|apply Drawn0.step)⟩
def aes_twice.f (a0:Int):Option (Int):=if (Go.bits .and .u8 a0 128)=0 then (some ((a0 * 2) % 256)) else (some (Go.bits .xor .u8 ((a0 * 2) % 256) 27))
set_option maxHeartbeats 8000000 in
set_option maxRecDepth 100000 in
theorem aes_twice.calls (a0:Int) (r:Int) (w:World) (h:aes_twice.f a0=some r) :
 Calls Tryd.prog 102 #[.int .u8 a0] w fun e w'=>e=.returned (.int .u8 r)∧Drawn0 w w':=by
 have H:(if (Go.bits .and .u8 a0 128)=0 then (some ((a0 * 2) % 256)) else (some (Go.bits .xor .u8 ((a0 * 2) % 256) 27)))=some r:=h
 clear h
 by_cases c2:(Go.bits .and .u8 a0 128)=0
 case neg =>
  rw [if_neg c2] at H
  have c2b0:((Go.bits .and .u8 a0 128) == 0)=false:=beq_eq_false_iff_ne.mpr c2
  have c2b1:((Go.bits .and .u8 a0 128) != 0)=true:=bne_iff_ne.mpr c2
  obtain rfl:=Option.some.inj H
  go_enter Tryd.func102,Tryd.ntmps102
  go_wp2
  go_ret
  exact ⟨by first|rfl|(simp; done)|(simp [*]; done),by repeat (first|exact Drawn0.refl _|apply Drawn0.step)⟩
 rw [if_pos c2] at H
 have c2b0:((Go.bits .and .u8 a0 128) == 0)=true:=beq_iff_eq.mpr c2
 have c2b1:((Go.bits .and .u8 a0 128) != 0)=false:=bne_eq_false_iff_eq.mpr c2
 clear c2
 obtain rfl:=Option.some.inj H
 go_enter Tryd.func102,Tryd.ntmps102
 go_wp2
 go_ret
 exact ⟨by first|rfl|(simp; done)|(simp [*]; done),by repeat (first|exact Drawn0.refl _|apply Drawn0.step)⟩
def aes_Times.l0:Nat→Int→Int→Int→Option (Int)
  | 0,_,_,_=>none
  | k+1,x0,x1,x5=>if x1=0 then (some x5) else (if (Go.bits .and .u8 x1 1)=0 then ((aes_twice.f x0).bind fun t101=>(aes_Times.l0 k t101 (x1 / 2) x5)) else ((aes_twice.f x0).bind fun t102=>(aes_Times.l0 k t102 (x1 / 2) (Go.bits .xor .u8 x5 x0))))
def aes_Times.f (k:Nat) (a0:Int) (a1:Int):Option (Int):=aes_Times.l0 k a0 a1 0
set_option maxHeartbeats 8000000 in
set_option maxRecDepth 100000 in
theorem aes_Times.calls (k:Nat) (a0:Int) (a1:Int) (r:Int) (w:World) (h:aes_Times.f k a0 a1=some r) :
 Calls Tryd.prog 103 #[.int .u8 a0,.int .u8 a1] w fun e w'=>e=.returned (.int .u8 r)∧Drawn0 w w':=by
 have H:(aes_Times.l0 k a0 a1 0)=some r:=h
 clear h
 have H':=zK H
 clear H
 go_enter Tryd.func103,Tryd.ntmps103
 go_wp2
 go_loopg [0,1,5] k (fun kq v0 v1 v5 w'=>∃ (x0_1:Int) (x1_1:Int) (x5_1:Int),v0=.int .u8 x0_1∧v1=.int .u8 x1_1∧v5=.int .u8 x5_1∧Aside0 (aes_Times.l0 kq x0_1 x1_1 x5_1=some r)∧Aside0 (kq≤k)∧Drawn0 w w')
 case atStart=>exact ⟨(a0),(a1),(0),(by first|rfl|(simp; done)|(simp [*]; done)),(by first|rfl|(simp; done)|(simp [*]; done)),(by first|rfl|(simp; done)|(simp [*]; done)),H',⟨Nat.le_refl _⟩,by repeat (first|exact Drawn0.refl _|apply Drawn0.step)⟩
 case round =>
  clear H'
  try clear c1
  try clear p2
  obtain ⟨x0_1,x1_1,x5_1,rfl,rfl,rfl,HA,HK1,⟨m1,rfl⟩⟩:=hrel
  cases gk with
  | zero=>exact absurd HA.out (by simp [aes_Times.l0])
  | succ k1 =>
   have H:=HA.out
   clear HA
   simp only [aes_Times.l0] at H
   by_cases c3:x1_1=0
   case pos =>
    rw [if_pos c3] at H
    have c3b0:(x1_1 == 0)=true:=beq_iff_eq.mpr c3
    have c3b1:(x1_1 != 0)=false:=bne_eq_false_iff_eq.mpr c3
    clear c3
    obtain rfl:=Option.some.inj H
    go_wp2
    go_ret
    exact ⟨by first|rfl|(simp; done)|(simp [*]; done),by repeat (first|exact Drawn0.refl _|apply Drawn0.step)⟩
   rw [if_neg c3] at H
   have c3b0:(x1_1 == 0)=false:=beq_eq_false_iff_ne.mpr c3
   have c3b1:(x1_1 != 0)=true:=bne_iff_ne.mpr c3
   by_cases c4:(Go.bits .and .u8 x1_1 1)=0
   case pos =>
    rw [if_pos c4] at H
    have c4b0:((Go.bits .and .u8 x1_1 1) == 0)=true:=beq_iff_eq.mpr c4
    have c4b1:((Go.bits .and .u8 x1_1 1) != 0)=false:=bne_eq_false_iff_eq.mpr c4
    clear c4
    replace H:=Option.bind_eq_some_iff.mp H
    obtain ⟨t101,A50,H⟩:=H
    replace H:(aes_Times.l0 k1 t101 (x1_1 / 2) x5_1)=some r:=H
    have A5:=zK A50
    clear A50
    have H':=zK H
    clear H
    go_wp2_with (first|((with_reducible refine gate_callee (f:=102) rfl ?_); refine goesL_ (some 17) rfl rfl Tryd.func102 (by kernel_rfl) rfl #[.int .u8 x0_1] rfl (by (try simp only [zm]); first|done|rfl|(simp only [zl]; rfl)) ?_; (with_reducible refine (aes_twice.calls x0_1 t101 _ A5.out).mono ?_); rintro e w' ⟨rfl,⟨nd,rfl⟩⟩; refine ⟨_,rfl,?_⟩))
    go_roundg k1
    case measure=>have:=HK1.out; omega
    case rel=>exact ⟨(t101),(x1_1 / 2),(x5_1),(by first|rfl|(simp; done)|(simp [*]; done)),(by first|rfl|(simp; done)|(simp [*]; done)),(by first|rfl|(simp; done)|(simp [*]; done)),H',⟨by have:=HK1.out; omega⟩,by repeat (first|exact Drawn0.refl _|apply Drawn0.step)⟩
   rw [if_neg c4] at H
   have c4b0:((Go.bits .and .u8 x1_1 1) == 0)=false:=beq_eq_false_iff_ne.mpr c4
   have c4b1:((Go.bits .and .u8 x1_1 1) != 0)=true:=bne_iff_ne.mpr c4
   replace H:=Option.bind_eq_some_iff.mp H
   obtain ⟨t102,A60,H⟩:=H
   replace H:(aes_Times.l0 k1 t102 (x1_1 / 2) (Go.bits .xor .u8 x5_1 x0_1))=some r:=H
   have A6:=zK A60
   clear A60
   have H':=zK H
   clear H
   go_wp2_with (first|((with_reducible refine gate_callee (f:=102) rfl ?_); refine goesL_ (some 17) rfl rfl Tryd.func102 (by kernel_rfl) rfl #[.int .u8 x0_1] rfl (by (try simp only [zm]); first|done|rfl|(simp only [zl]; rfl)) ?_; (with_reducible refine (aes_twice.calls x0_1 t102 _ A6.out).mono ?_); rintro e w' ⟨rfl,⟨nd,rfl⟩⟩; refine ⟨_,rfl,?_⟩))
   go_roundg k1
   case measure=>have:=HK1.out; omega
   case rel=>exact ⟨(t102),(x1_1 / 2),(Go.bits .xor .u8 x5_1 x0_1),(by first|rfl|(simp; done)|(simp [*]; done)),(by first|rfl|(simp; done)|(simp [*]; done)),(by first|rfl|(simp; done)|(simp [*]; done)),H',⟨by have:=HK1.out; omega⟩,by repeat (first|exact Drawn0.refl _|apply Drawn0.step)⟩
def aes_left.f (a0:Int) (a1:Int):Option (Int):=if 0≤a1 then (if 0≤(wrap64 (8 - a1)) then (some (Go.bits .or .u8 (shl .u8 a0 a1) (shr .u8 a0 (wrap64 (8 - a1))))) else (none)) else (none)
set_option maxHeartbeats 8000000 in
set_option maxRecDepth 100000 in
theorem aes_left.calls (a0:Int) (a1:Int) (r:Int) (w:World) (h:aes_left.f a0 a1=some r) :
 Calls Tryd.prog 104 #[.int .u8 a0,.int .i64 a1] w fun e w'=>e=.returned (.int .u8 r)∧Drawn0 w w':=by
 have H:(if 0≤a1 then (if 0≤(wrap64 (8 - a1)) then (some (Go.bits .or .u8 (shl .u8 a0 a1) (shr .u8 a0 (wrap64 (8 - a1))))) else (none)) else (none))=some r:=h
 clear h
 by_cases c3:0≤a1
 case neg =>
  rw [if_neg c3] at H
  exact absurd H (by simp)
 rw [if_pos c3] at H
 have c3b0:=eq_true c3
 have c3b1:decide (0≤a1)=true:=decide_eq_true c3
 clear c3
 obtain ⟨ji4,hji4⟩:∃ j_:Int,(shl .u8 a0 a1)=j_:=⟨_,rfl⟩
 replace H:(if 0≤(wrap64 (8 - a1)) then (some (Go.bits .or .u8 (ji4) (shr .u8 a0 (wrap64 (8 - a1))))) else (none))=some r:=by first|(rw [hji4] at H; exact H)|(simp only [hji4] at H ⊢; exact H)
 have hji4_:(IntKind.u8.wrap (a0 * 2 ^ min a1.toNat 8))=ji4:=hji4
 have hji4z:a1≤8→(IntKind.u8.wrap (a0 * 2 ^ a1.toNat))=ji4:=shl_small hji4
 obtain ⟨ji5,hji5⟩:∃ j_:Int,(wrap64 (8 - a1))=j_:=⟨_,rfl⟩
 replace H:(if 0≤(ji5) then (some (Go.bits .or .u8 (ji4) (shr .u8 a0 (ji5)))) else (none))=some r:=by first|(rw [hji5] at H; exact H)|(simp only [hji5] at H ⊢; exact H)
 have hji5w:(IntKind.i64.wrap (8 - a1))=ji5:=(i64_w _).trans hji5
 by_cases c6:0≤(ji5)
 case neg =>
  rw [if_neg c6] at H
  exact absurd H (by simp)
 rw [if_pos c6] at H
 have c6b0:=eq_true c6
 have c6b1:decide (0≤(ji5))=true:=decide_eq_true c6
 clear c6
 obtain ⟨ji7,hji7⟩:∃ j_:Int,(shr .u8 a0 (ji5))=j_:=⟨_,rfl⟩
 replace H:(some (Go.bits .or .u8 (ji4) (ji7)))=some r:=by first|(rw [hji7] at H; exact H)|(simp only [hji7] at H ⊢; exact H)
 have hji7_:(a0 / 2 ^ min (ji5).toNat 8)=ji7:=hji7
 have hji7z:(ji5)≤8→(a0 / 2 ^ (ji5).toNat)=ji7:=shr_small hji7
 obtain rfl:=Option.some.inj H
 go_enter Tryd.func104,Tryd.ntmps104
 go_wp2
 repeat (go_quiet (fail); try go_wp2)
 go_ret
 exact ⟨by first|rfl|(simp; done)|(simp only [← hji4,← hji5,← hji7]<;>(first|rfl|simp))|(simp [*]; done),by repeat (first|exact Drawn0.refl _|apply Drawn0.step)⟩
end Go.Proofs.YtkgijkfcmbpgpaaDoor.PSub
end
section
namespace Go.Proofs.YtkgijkfcmbpgpaaDoor.Giv
open Go.RowKit Go.Proofs.YtkgijkfcmbpgpaaDoorW.PrintWords Go.Proofs.YtkgijkfcmbpgpaaDoorW.PrintLast Go.Proofs.YtkgijkfcmbpgpaaDoorW.PrintMore Go.Proofs.YtkgijkfcmbpgpaaDoor.PSub
def AK (q:IntKind) (l:List Int):Array Value:=(l.map (Value.int q)).toArray
theorem AK_size (q:IntKind) (l:List Int):(AK q l).size=l.length:=by simp [AK]
theorem AK_get (q:IntKind) (l:List Int) (i:Nat) (h:i<l.length):(AK q l)[i]? = some (.int q (l.getD i 0)):=by simp [AK,h]
theorem AK_set (q:IntKind) (l:List Int) (i:Nat) (x:Int):(AK q l).setIfInBounds i (.int q x)=AK q (l.set i x):=by simp [AK,List.map_set]
theorem AK_one (q:IntKind) (l:List Int):(AK q l).all (·.oneCell')=true:=by simp [AK,Value.oneCell']
theorem AK_cell {q:IntKind} {w:World} {g:Nat} {t:TypeId} {fr:Nat×Nat} {l:List Int} (h:w.heap[g]? = some (.cells (AK q l) t fr)) (i:Nat) (hi:i<l.length) :
 w.cell? ⟨g,i,none⟩=some (.int q (l.getD i 0)):=(cell_of_row w g i _ t _ h).trans (AK_get q l i hi)
theorem AK_store {q:IntKind} {w:World} {g:Nat} {t:TypeId} {l:List Int} (h:w.heap[g]? = some (.cells (AK q l) t (0,0))) (i:Nat) (x:Int) :
 (w.setCell ⟨g,i,none⟩ (.int q x)).heap[g]? = some (.cells (AK q (l.set i x)) t (0,0)):=by
 rw [heap_setCell_same w g i _ t _ h,AK_set]
theorem below_setRow {B g:Nat} {w0 w:World} (hb:Below B w0 w) (hBg:B≤g) (cs:Array Value):Below B w0 (w.setRow g cs) :=
 hb.trans ⟨rfl,rfl,rfl,by simp,fun k hk=>setRow_other w g k cs (by omega)⟩
theorem run_index_AK {P:Program} {T:TypeId} {q:IntKind} {l:List Int} {n:Nat} {e:TypeId} (hu:P.underlying T=some (.array n e)) (hn:l.length=n)
 (ha:∀ w,(isAgg e).run P w=.ok false w) (hs:∀ w,(sizeOf e).run P w=.ok 1 w) (i:Nat) (hi:i<l.length) (w:World) :
 (Instr.index T (.agg (AK q l)) (.int .i64 i)).run P w=.ok (.int q (l.getD i 0)) w:=by
 have h1:(0:Int)≤(i:Int)∧(i:Int)<(n:Int):=⟨by omega,by omega⟩
 unfold Instr.index
 simp [Sem.run_bind,asIntOf,run_underlying hu,h1,hs,part,ha,AK_get q l i hi]
 all_goals omega
end Go.Proofs.YtkgijkfcmbpgpaaDoor.Giv
end
section
namespace Go.Proofs.YtkgijkfcmbpgpaaDoor.Giv
open Go.RowKit Go.Proofs.YtkgijkfcmbpgpaaDoorW.PrintWords
def firstL:List Int:=[1779033703,3144134277,1013904242,2773480762,1359893119,2600822924,528734635,1541459225]
def keysL:List Int:=[1116352408,1899447441,3049323471,3921009573,961987163,1508970993,2453635748,2870763221,3624381080,310598401,607225278,1426881987,1925078388,2162078206,2614888103,3248222580,3835390401,4022224774,264347078,604807628,770255983,1249150122,1555081692,1996064986,2554220882,2821834349,2952996808,3210313671,3336571891,3584528711,113926993,338241895,666307205,773529912,1294757372,1396182291,1695183700,1986661051,2177026350,2456956037,2730485921,2820302411,3259730800,3345764771,3516065817,3600352804,4094571909,275423344,430227734,506948616,659060556,883997877,958139571,1322822218,1537002063,1747873779,1955562222,2024104815,2227730452,2361852424,2428436474,2756734187,3204031479,3329325298]
def GW (w:World):Prop:=(∃ t fr,w.heap[0]? = some (.cells (AK .u32 firstL) t fr))∧∃ t fr,w.heap[1]? = some (.cells (AK .u32 keysL) t fr)
theorem GW.below {w w':World} (h:GW w) (hb:Below w.heap.size w w'):GW w':=by
 obtain ⟨⟨t,fr,h0⟩,t',fr',h1⟩:=h
 have l0:0<w.heap.size:=(Array.getElem?_eq_some_iff.1 h0).1
 have l1:1<w.heap.size:=(Array.getElem?_eq_some_iff.1 h1).1
 exact ⟨⟨t,fr,(hb.block 0 l0).trans h0⟩,t',fr',(hb.block 1 l1).trans h1⟩
theorem GW.key {w:World} (h:GW w) (i:Nat) (hi:i<64):w.cell? ⟨1,i,none⟩=some (.int .u32 (keysL.getD i 0)):=by
 obtain ⟨_,t',fr',h1⟩:=h
 exact AK_cell h1 i (by simpa [keysL] using hi)
theorem GW.lt {w:World} (h:GW w):1<w.heap.size:=by
 obtain ⟨_,t',fr',h1⟩:=h
 exact (Array.getElem?_eq_some_iff.1 h1).1
end Go.Proofs.YtkgijkfcmbpgpaaDoor.Giv
end
section
namespace Go.Proofs.YtkgijkfcmbpgpaaDoor.Giv
open Go.ChangeShapes Go.WideShapes Go.ChangeAt Go.RowKit Go.Proofs.YtkgijkfcmbpgpaaDoor
theorem own:ownKnob Tryd.prog.godebug=none:=by kernel_rfl
theorem gFirst:Tryd.prog.globalNamed "legate/sha.first" = some 0:=by kernel_rfl
theorem gKeys:Tryd.prog.globalNamed "legate/sha.keys" = some 1:=by kernel_rfl
theorem tFirst:(Tryd.prog.globals[0]?).map (·.type)=some 58:=by kernel_rfl
theorem tKeys:(Tryd.prog.globals[1]?).map (·.type)=some 74:=by kernel_rfl
abbrev laidL {H:Type} : List (String×DataW H):=[("legate/sha.keys",Rows.laid_legate_sha_keys),("legate/sha.first",Rows.laid_legate_sha_first)]
theorem door_met (os:Os) (args:Array Value):laidMetH Tryd.prog laidL ((World.doorLaid Tryd.prog 19 os).forCall (fun _ _=>0) ⟨#[],args,[]⟩).memory :=
 laidMetH_of_parts3 (fuel:=8) (laidMet_of_run' 8 (by kernel_rfl) (by kernel_rfl)) (by kernel_rfl) (by kernel_rfl)
theorem heap_of_var {w:World} {n:String} {g:Nat} {cs:Array Value} (hg:Tryd.prog.globalNamed n=some g) (hv:w.var? Tryd.prog n=some cs):∃ t fr,w.heap[g]? = some (.cells cs t fr):=by
 unfold World.var? at hv
 rw [hg] at hv
 simp only [Option.bind_some] at hv
 split at hv
 ·rename_i c t fr h
  cases hv
  exact ⟨t,fr,h⟩
 ·cases hv
theorem GW.of_laid {W:World} (h:laidMetH Tryd.prog laidL W):GW W:=by
 rw [MakeChecks.laidMetH_plain _ _ _ (by kernel_rfl)] at h
 obtain ⟨ps,⟨g0,t0,cs0,f0,p0,q0,hg0,ht0,hv0,hd0,⟨g1,t1,cs1,f1,p1,q1,hg1,ht1,hv1,hd1,_,_⟩,_⟩,_,_⟩:=h
 obtain rfl:=Option.some.inj (gKeys.symm.trans hg0)
 obtain rfl:=Option.some.inj (gFirst.symm.trans hg1)
 obtain rfl:=Option.some.inj (tKeys.symm.trans ht0)
 obtain rfl:=Option.some.inj (tFirst.symm.trans ht1)
 have k0:=Lib.cells_of_tab (k:=.u32) (zs:=keysL) Tryd.underlying74 Tryd.underlying56 (by kernel_rfl) (by kernel_rfl) hd0
 have k1:=Lib.cells_of_tab (k:=.u32) (zs:=firstL) Tryd.underlying58 Tryd.underlying56 (by kernel_rfl) (by kernel_rfl) hd1
 have e0:cs0=AK .u32 keysL:=by
  apply Array.ext'
  rw [k0]; rfl
 have e1:cs1=AK .u32 firstL:=by
  apply Array.ext'
  rw [k1]; rfl
 subst e0
 subst e1
 exact ⟨heap_of_var hg1 hv1,heap_of_var hg0 hv0⟩
end Go.Proofs.YtkgijkfcmbpgpaaDoor.Giv
end
section
namespace Go.Proofs.YtkgijkfcmbpgpaaDoor.PAll
open Go.RowKit Go.Proofs.YtkgijkfcmbpgpaaDoorW.PrintWords Go.Proofs.YtkgijkfcmbpgpaaDoorW.PrintLast Go.Proofs.YtkgijkfcmbpgpaaDoorW.PrintMore
attribute [local go_sem] max2_int min2_int max_two min_two max_three min_three max_four min_four
set_option linter.unusedVariables false
set_option linter.unusedSimpArgs false
def errW:Option Int→Value
  | none=>.nilIface
  | some c=>.iface 0 (.int .i64 c)
theorem errW_none:errW none=.nilIface:=rfl
theorem errW_some (c:Int):errW (some c)=.iface 0 (.int .i64 c):=rfl
theorem info3:(Tryd.prog.info? 3).map (fun i=>(i.zero,i.size,i.bytes))=some (some (.int .i64 0),1,8):=by kernel_rfl
theorem info5:(Tryd.prog.info? 5).map (fun i=>(i.zero,i.size,i.bytes))=some (some (.int .u8 0),1,1):=by kernel_rfl
end Go.Proofs.YtkgijkfcmbpgpaaDoor.PAll
end
section
namespace Go.Proofs.YtkgijkfcmbpgpaaDoor.PAll
open Go.RowKit Go.Proofs.YtkgijkfcmbpgpaaDoorW.PrintWords Go.Proofs.YtkgijkfcmbpgpaaDoorW.PrintLast Go.Proofs.YtkgijkfcmbpgpaaDoorW.PrintMore
attribute [local go_sem] max2_int min2_int max_two min_two max_three min_three max_four min_four
set_option linter.unusedVariables false
set_option linter.unusedSimpArgs false
mutual
def sha_Pad.l0:Nat→Int→List Int→Option (ByteArray)
  | 0,_,_=>none
  | k+1,x0,x3=>if (Int.tmod (wrap64 ((wrap64 (x0+(x3.length:Int)))+8)) 64)=0 then (sha_Pad.l1 k x0 x3 7) else (if x3.length<140737488355328 then (sha_Pad.l0 k x0 (x3++[0])) else (none))
def sha_Pad.l1:Nat→Int→List Int→Int→Option (ByteArray)
  | 0,_,_,_=>none
  | k+1,x0,x3,x4=>if x4≥0 then (if 0≤(wrap64 (8 * x4)) then (if x3.length<140737488355328 then (sha_Pad.l1 k x0 (x3++[(shr .u64 (IntKind.u64.wrap ((IntKind.u64.wrap (x0)) * 8)) (wrap64 (8 * x4))) % 256]) (wrap64 (x4 - 1))) else (none)) else (none)) else (some (strOfNums x3))
end
def sha_Pad.f (k:Nat) (a0:Int):Option (ByteArray):=if a0<0 then (some (⟨#[]⟩:ByteArray)) else (sha_Pad.l0 k a0 (([128]:List Int)))
set_option maxHeartbeats 8000000 in
set_option maxRecDepth 100000 in
theorem sha_Pad.calls (k:Nat) (a0:Int) (r:ByteArray) (w:World) (h:sha_Pad.f k a0=some r) :
 Calls Tryd.prog 27 #[.int .i64 a0] w fun e w'=>e=.returned (.string r)∧Below w.heap.size w w':=by
 have HB:=zK (Below.refl w.heap.size w)
 have H:(if a0<0 then (some (⟨#[]⟩:ByteArray)) else (sha_Pad.l0 k a0 (([128]:List Int))))=some r:=h
 clear h
 by_cases c2:a0<0
 case pos =>
  rw [if_pos c2] at H
  have c2b0:decide (a0<0)=true:=decide_eq_true c2
  clear c2
  obtain rfl:=Option.some.inj H
  go_enter Tryd.func27,Tryd.ntmps27
  go_wp2
  go_ret
  exact ⟨by first|rfl|(simp [errW_none,errW_some]<;>rfl)|(simp [*,errW_none,errW_some]<;>rfl),by repeat (first|(with_reducible first|exact HB.out|apply zA|apply zN|apply zD)|exact HB.out)⟩
 rw [if_neg c2] at H
 have c2b0:decide (a0<0)=false:=decide_eq_false c2
 clear c2
 obtain ⟨y101,hy101⟩:∃ y_:List Int,y_=(([128]:List Int)):=⟨_,rfl⟩
 replace H:(sha_Pad.l0 k a0 y101)=some r:=by first|(rw [hy101]; with_reducible exact H)|(have H2_:=(Option.bind_some _ _).symm.trans H; rw [hy101]; with_reducible exact H2_)|(have H2_:=(Option.bind_some _ _).symm.trans H; with_reducible exact H2_)|with_reducible exact H|(rw [hy101]; exact H)|exact H
 have Ny101:=zK hy101
 clear hy101
 have H':=zK H
 clear H
 go_enter Tryd.func27,Tryd.ntmps27
 go_wp2_with (first|((with_reducible refine gate_dst (N:=7) rfl ?_); refine Kd.R_lit (Kd.int .u8) _ 5 ?hg (N:=7) ?hd (xs:=([128]:List Int)) (inner:=[.int .u8 128]) (ok:=fun _=>True) (okp:=fun _=>True) ?hr ?hp (fun _ hk=>hk) trivial (Below.refl _ _) (Nat.le_refl _) (by simp) ?_; (case hd=>rfl); (case hg=>rfl); (case hr=>first|(go_simp; done)|(go_simp; rfl)); (case hp=>exact (Reps.one (show Kd.M (Kd.int .u8) _ _ _ 128 [.int .u8 128] from rfl) (Reps.none _ _))); intro v102 w3 ho4 hb hg_ hnew_; clear hg_ hnew_; (first|rw [← Ny101.out] at ho4|(simp only [Int.reduceToNat] at ho4; rw [← Ny101.out] at ho4)); have n0_:=zK (Kd.R_lower ho4 (below_size (by repeat (first|(with_reducible first|exact HB.out|apply zA|apply zN|apply zD)|exact HB.out)))); have n1_:=zK (below_step (by repeat (first|(with_reducible first|exact HB.out|apply zA|apply zN|apply zD)|exact HB.out)) hb); clear HB; have HO103:=n0_; have HB:=n1_; clear n0_ n1_; clear hb ho4))
 go_loopg [3] k (fun kq v3 w'=>∃ (x3_1:List Int),Aside0 (sha_Pad.l0 kq a0 x3_1=some r)∧Aside0 (kq≤k)∧Aside0 (Kd.R (Kd.int .u8) 5 w' w.heap.size (fun _=>True) v3 x3_1)∧Aside0 (Below w.heap.size w w'))
 case atStart=>exact ⟨(y101),H',⟨Nat.le_refl _⟩,⟨by (with_reducible repeat (first|apply Kd.R_alloc|apply Kd.R_drewN|apply Kd.R_drew)); exact HO103.out⟩,⟨by repeat (first|(with_reducible first|exact HB.out|apply zA|apply zN|apply zD)|exact HB.out)⟩⟩
 case round =>
  clear H'
  try clear c2
  try clear c2b0
  try clear p2
  obtain ⟨x3_1,HA,HK1,HO_3,HB⟩:=hrel
  cases gk with
  | zero=>exact absurd HA.out (by simp [sha_Pad.l0])
  | succ k1 =>
   have H:=HA.out
   clear HA
   simp only [sha_Pad.l0] at H
   by_cases c5:(Int.tmod (wrap64 ((wrap64 (a0+(x3_1.length:Int)))+8)) 64)=0
   case neg =>
    rw [if_neg c5] at H
    have c5b0:((Int.tmod (wrap64 ((wrap64 (a0+(x3_1.length:Int)))+8)) 64) == 0)=false:=beq_eq_false_iff_ne.mpr c5
    have c5b1:((Int.tmod (wrap64 ((wrap64 (a0+(x3_1.length:Int)))+8)) 64) != 0)=true:=bne_iff_ne.mpr c5
    by_cases c14:x3_1.length<140737488355328
    case neg =>
     rw [if_neg c14] at H
     exact absurd H (by simp)
    rw [if_pos c14] at H
    have LMc14:=zK c14
    clear c14
    obtain ⟨y104,hy104⟩:∃ y_:List Int,y_=(x3_1++[0]):=⟨_,rfl⟩
    replace H:(sha_Pad.l0 k1 a0 y104)=some r:=by first|(rw [hy104]; with_reducible exact H)|(have H2_:=(Option.bind_some _ _).symm.trans H; rw [hy104]; with_reducible exact H2_)|(have H2_:=(Option.bind_some _ _).symm.trans H; with_reducible exact H2_)|with_reducible exact H|(rw [hy104]; exact H)|exact H
    have Ny104:=zK hy104
    clear hy104
    have H':=zK H
    clear H
    obtain ⟨Ao15,co15,eo15⟩:=Kd.R_slice HO_3.out
    subst eo15
    go_wp2_with (first|((with_reducible refine gate_builtin (b:=.append) (xs:=#[.tmp 15,.tmp 16]) rfl ?_); at_builtin; refine Kd.R_append (Kd.int .u8) (w0:=w) w.heap.size rfl (.tmp 15) (.tmp 16) 44 5 (.int .u8 0) 1 rfl Tryd.underlying44 info5 rfl (by decide) (by omega) (.slice Ao15 x3_1.length co15) x3_1 0 [.int .u8 0] (fun _=>True) (fun _=>False) rfl rfl ?aP (fun _ hk=>hk.elim) ?aF ?aO ?aB ?aS ?aL ?_; (case aP=>exact rfl); (case aB=>exact (by repeat (first|(with_reducible first|exact HB.out|apply zA|apply zN|apply zD)|exact HB.out))); (case aF=>exact (fun _ _=>trivial)); (case aO=>exact (by (with_reducible repeat (first|apply Kd.R_alloc|apply Kd.R_drewN|apply Kd.R_drew)); exact HO_3.out)); (case aS=>exact (below_size (by repeat (first|(with_reducible first|exact HB.out|apply zA|apply zN|apply zD)|exact HB.out)))); (case aL=>have:=LMc14.out; omega); intro v105 w16 ho hb hg hat; rw [← Ny104.out] at ho; have n0_:=zK (hb); have n1_:=zK (ho); clear HB; clear HO_3; have HB:=n0_; have HO106:=n1_; clear n0_ n1_; clear ho hb hg hat))
    go_roundg k1
    case measure=>have:=HK1.out; omega
    case rel=>exact ⟨(y104),H',⟨by have:=HK1.out; omega⟩,⟨by (with_reducible repeat (first|apply Kd.R_alloc|apply Kd.R_drewN|apply Kd.R_drew)); exact HO106.out⟩,⟨by repeat (first|(with_reducible first|exact HB.out|apply zA|apply zN|apply zD)|exact HB.out)⟩⟩
   rw [if_pos c5] at H
   have c5b0:((Int.tmod (wrap64 ((wrap64 (a0+(x3_1.length:Int)))+8)) 64) == 0)=true:=beq_iff_eq.mpr c5
   have c5b1:((Int.tmod (wrap64 ((wrap64 (a0+(x3_1.length:Int)))+8)) 64) != 0)=false:=bne_eq_false_iff_eq.mpr c5
   clear c5
   have H':=zK H
   clear H
   obtain ⟨Ao6,co6,eo6⟩:=Kd.R_slice HO_3.out
   subst eo6
   go_wp2
   go_loopg [3,4] k1 (fun kq v3 v4 w'=>∃ (x3_2:List Int) (x4_2:Int),v4=.int .i64 x4_2∧Aside0 (sha_Pad.l1 kq a0 x3_2 x4_2=some r)∧Aside0 (kq≤k1)∧Aside0 (Kd.R (Kd.int .u8) 5 w' w.heap.size (fun _=>True) v3 x3_2)∧Aside0 (Below w.heap.size w w'))
   case atStart=>exact ⟨(x3_1),(7),(by first|rfl|(simp; done)|(simp [*]; done)),H',⟨Nat.le_refl _⟩,⟨by (with_reducible repeat (first|apply Kd.R_alloc|apply Kd.R_drewN|apply Kd.R_drew)); exact HO_3.out⟩,⟨by repeat (first|(with_reducible first|exact HB.out|apply zA|apply zN|apply zD)|exact HB.out)⟩⟩
   case round =>
    clear H'
    try clear c2
    try clear c2b0
    try clear p2
    try clear c5
    try clear c5b0
    try clear c5b1
    try clear p6
    try clear p2
    obtain ⟨x3_2,x4_2,rfl,HA,HK2,HO_3,HB⟩:=hrel
    cases gk with
    | zero=>exact absurd HA.out (by simp [sha_Pad.l1])
    | succ k2 =>
     have H:=HA.out
     clear HA
     simp only [sha_Pad.l1] at H
     by_cases c7:x4_2≥0
     case neg =>
      rw [if_neg c7] at H
      have c7b0:decide (0≤x4_2)=false:=decide_eq_false c7
      clear c7
      obtain rfl:=Option.some.inj H
      have hcv13:=own_string (P:=Tryd.prog) Tryd.underlying44 Tryd.underlying5 Tryd.underlying9 (Kd.own_of_R HO_3.out)
      go_wp2
      go_ret
      exact ⟨by first|rfl|(simp [errW_none,errW_some]<;>rfl)|(simp [*,errW_none,errW_some]<;>rfl),by repeat (first|(with_reducible first|exact HB.out|apply zA|apply zN|apply zD)|exact HB.out)⟩
     rw [if_pos c7] at H
     have c7b0:decide (0≤x4_2)=true:=decide_eq_true c7
     clear c7
     obtain ⟨ji8,hji8⟩:∃ j_:Int,(wrap64 (8 * x4_2))=j_:=⟨_,rfl⟩
     replace H:(if 0≤(ji8) then (if x3_2.length<140737488355328 then (sha_Pad.l1 k2 a0 (x3_2++[(shr .u64 (IntKind.u64.wrap ((IntKind.u64.wrap (a0)) * 8)) (ji8)) % 256]) (wrap64 (x4_2 - 1))) else (none)) else (none))=some r:=by first|(rw [hji8] at H; exact H)|(simp only [hji8] at H ⊢; exact H)
     have hji8w:(IntKind.i64.wrap (8 * x4_2))=ji8:=(i64_w _).trans hji8
     by_cases c9:0≤(ji8)
     case neg =>
      rw [if_neg c9] at H
      exact absurd H (by simp)
     rw [if_pos c9] at H
     have c9b0:=eq_true c9
     have c9b0z:=c9b0
     (try simp only [ByteArray.size_append,Int.natCast_add] at c9b0z)
     have c9b1:decide (0≤(ji8))=true:=decide_eq_true c9
     have c9b1z:=c9b1
     (try simp only [ByteArray.size_append,Int.natCast_add] at c9b1z)
     clear c9
     obtain ⟨ji10,hji10⟩:∃ j_:Int,(shr .u64 (IntKind.u64.wrap ((IntKind.u64.wrap (a0)) * 8)) (ji8))=j_:=⟨_,rfl⟩
     replace H:(if x3_2.length<140737488355328 then (sha_Pad.l1 k2 a0 (x3_2++[(ji10) % 256]) (wrap64 (x4_2 - 1))) else (none))=some r:=by first|(rw [hji10] at H; exact H)|(simp only [hji10] at H ⊢; exact H)
     have hji10_:((IntKind.u64.wrap ((IntKind.u64.wrap (a0)) * 8)) / 2 ^ min (ji8).toNat 64)=ji10:=hji10
     have hji10z:(ji8)≤64→((IntKind.u64.wrap ((IntKind.u64.wrap (a0)) * 8)) / 2 ^ (ji8).toNat)=ji10:=shr_small hji10
     by_cases c11:x3_2.length<140737488355328
     case neg =>
      rw [if_neg c11] at H
      exact absurd H (by simp)
     rw [if_pos c11] at H
     have LMc11:=zK c11
     clear c11
     obtain ⟨y107,hy107⟩:∃ y_:List Int,y_=(x3_2++[(ji10) % 256]):=⟨_,rfl⟩
     replace H:(sha_Pad.l1 k2 a0 y107 (wrap64 (x4_2 - 1)))=some r:=by first|(rw [hy107]; with_reducible exact H)|(have H2_:=(Option.bind_some _ _).symm.trans H; rw [hy107]; with_reducible exact H2_)|(have H2_:=(Option.bind_some _ _).symm.trans H; with_reducible exact H2_)|with_reducible exact H|(rw [hy107]; exact H)|exact H
     have Ny107:=zK hy107
     clear hy107
     have H':=zK H
     clear H
     go_wp2_with (first|((with_reducible refine gate_builtin (b:=.append) (xs:=#[.tmp 22,.tmp 30]) rfl ?_); at_builtin; refine Kd.R_append (Kd.int .u8) (w0:=w) w.heap.size rfl (.tmp 22) (.tmp 30) 44 5 (.int .u8 0) 1 rfl Tryd.underlying44 info5 rfl (by decide) (by omega) u3 x3_2 ((ji10) % 256) [.int .u8 ((ji10) % 256)] (fun _=>True) (fun _=>False) rfl rfl ?aP (fun _ hk=>hk.elim) ?aF ?aO ?aB ?aS ?aL ?_; (case aP=>exact rfl); (case aB=>exact (by repeat (first|(with_reducible first|exact HB.out|apply zA|apply zN|apply zD)|exact HB.out))); (case aF=>exact (fun _ _=>trivial)); (case aO=>exact (by (with_reducible repeat (first|apply Kd.R_alloc|apply Kd.R_drewN|apply Kd.R_drew)); exact HO_3.out)); (case aS=>exact (below_size (by repeat (first|(with_reducible first|exact HB.out|apply zA|apply zN|apply zD)|exact HB.out)))); (case aL=>have:=LMc11.out; omega); intro v108 w12 ho hb hg hat; rw [← Ny107.out] at ho; have n0_:=zK (hb); have n1_:=zK (ho); clear HB; clear HO_3; have HB:=n0_; have HO109:=n1_; clear n0_ n1_; clear ho hb hg hat))
     go_roundg k2
     case measure=>have:=HK1.out; have:=HK2.out; omega
     case rel=>exact ⟨(y107),(wrap64 (x4_2 - 1)),(by first|rfl|(simp; done)|(simp [*]; done)),H',⟨by have:=HK1.out; have:=HK2.out; omega⟩,⟨by (with_reducible repeat (first|apply Kd.R_alloc|apply Kd.R_drewN|apply Kd.R_drew)); exact HO109.out⟩,⟨by repeat (first|(with_reducible first|exact HB.out|apply zA|apply zN|apply zD)|exact HB.out)⟩⟩
end Go.Proofs.YtkgijkfcmbpgpaaDoor.PAll
end
