import Derived.Test.YtkgijkfcmbpgpaaDoorS2b0
import Derived.Test.YtkgijkfcmbpgpaaDoorS2b1
import Derived.Test.YtkgijkfcmbpgpaaDoorS2b2
import Derived.Test.YtkgijkfcmbpgpaaDoorS2b20
section
namespace Go.Proofs.YtkgijkfcmbpgpaaDoor.PAll
open Go.RowKit Go.Proofs.YtkgijkfcmbpgpaaDoorW.PrintWords Go.Proofs.YtkgijkfcmbpgpaaDoorW.PrintLast Go.Proofs.YtkgijkfcmbpgpaaDoorW.PrintMore
attribute [local go_sem] max2_int min2_int max_two min_two max_three min_three max_four min_four
set_option linter.unusedVariables false
set_option linter.unusedSimpArgs false
mutual
def legateref05_Stream.j0:Nat→List Int→ByteArray→ByteArray→Int→Bool→Option (ByteArray)
  | 0,_,_,_,_,_=>none
  | k+1,x0,x1,x2,x3,x26=>if x26=true then (some (⟨#[]⟩:ByteArray)) else (legateref05_Stream.l0 k x0 x1 x2 x3 (⟨#[]⟩:ByteArray) 0)
def legateref05_Stream.l0:Nat→List Int→ByteArray→ByteArray→Int→ByteArray→Int→Option (ByteArray)
  | 0,_,_,_,_,_,_=>none
  | k+1,x0,x1,x2,x3,x9,x10=>if (x9.size:Int)<x3 then ((some (([(wrap64 (Int.tdiv x10 16777216)) % 256,(wrap64 (Int.tdiv x10 65536)) % 256,(wrap64 (Int.tdiv x10 256)) % 256,(x10) % 256]:List Int):List Int)).bind fun y490=>(if x2.size+(strOfNums y490).size≤9223372036854775807 then ((legateref04_Encrypt.f k x0 x1 (x2++(strOfNums y490))).bind fun t493=>(if x9.size+t493.size≤9223372036854775807 then (legateref05_Stream.l0 k x0 x1 x2 x3 (x9++t493) (wrap64 (x10+1))) else (none))) else (none))) else (if 0≤x3 then (if x3≤(x9.size:Int) then (some (x9.extract 0 (x3:Int).toNat)) else (none)) else (none))
end
def legateref05_Stream.f (k:Nat) (l0:List Int) (a1:ByteArray) (a2:ByteArray) (a3:Int):Option (ByteArray):=if (a1.size:Int)=16 then (if (a2.size:Int)=12 then (if a3<0 then (legateref05_Stream.j0 k l0 a1 a2 a3 true) else (legateref05_Stream.j0 k l0 a1 a2 a3 (decide (a3 > 1048576)))) else (legateref05_Stream.j0 k l0 a1 a2 a3 true)) else (legateref05_Stream.j0 k l0 a1 a2 a3 true)
set_option maxHeartbeats 8000000 in
set_option maxRecDepth 100000 in
theorem legateref05_Stream.calls (k:Nat) (A0:Option Addr) (c0:Nat) (l0:List Int) (a1:ByteArray) (a2:ByteArray) (a3:Int) (r:ByteArray) (w:World) (hr0:Kd.C (Kd.int .u8) w A0 l0.length l0) (hc0:l0.length≤c0) (h:legateref05_Stream.f k l0 a1 a2 a3=some r) :
 Calls Tryd.prog 84 #[.slice A0 l0.length c0,.string a1,.string a2,.int .i64 a3] w fun e w'=>e=.returned (.string r)∧Below w.heap.size w w':=by
 have HR0:=zK hr0
 have HC0:=zK hc0
 clear hr0 hc0
 have HB:=zK (Below.refl w.heap.size w)
 have H:(if (a1.size:Int)=16 then (if (a2.size:Int)=12 then (if a3<0 then (legateref05_Stream.j0 k l0 a1 a2 a3 true) else (legateref05_Stream.j0 k l0 a1 a2 a3 (decide (a3 > 1048576)))) else (legateref05_Stream.j0 k l0 a1 a2 a3 true)) else (legateref05_Stream.j0 k l0 a1 a2 a3 true))=some r:=h
 clear h
 have HC5:=zK H
 clear H
 go_enter Tryd.func84,Tryd.ntmps84
 go_upto_region 1 with (fail)
 go_cut [26] (fun v26 wc=>∃ (kq:Nat) (x26_4:Bool),v26=.bool x26_4∧Aside0 (legateref05_Stream.j0 kq l0 a1 a2 a3 x26_4=some r)∧Aside0 (kq≤k)∧Aside0 (Below w.heap.size w wc))
 case first =>
  have H:=HC5.out
  clear HC5
  by_cases c6:(a1.size:Int)=16
  case neg =>
   rw [if_neg c6] at H
   have c6b0:((a1.size:Int) == 16)=false:=beq_eq_false_iff_ne.mpr c6
   have c6b1:((a1.size:Int) != 16)=true:=bne_iff_ne.mpr c6
   (first|rw [c6b0]|(simp only [i64_w,i32_w]; rw [c6b0])|skip)
   have H':=zK H
   clear H
   go_wp2
   go_meet
   case rel=>exact ⟨_,(true),(by first|rfl|(simp; done)|(simp [*]; done)),H',⟨by first|omega|exact Nat.le_refl _⟩,⟨by repeat (first|(with_reducible first|exact HB.out|apply zA|apply zN|apply zD)|exact HB.out)⟩⟩
  rw [if_pos c6] at H
  have c6b0:((a1.size:Int) == 16)=true:=beq_iff_eq.mpr c6
  have c6b1:((a1.size:Int) != 16)=false:=bne_eq_false_iff_eq.mpr c6
  clear c6
  (first|rw [c6b0]|(simp only [i64_w,i32_w]; rw [c6b0])|skip)
  by_cases c7:(a2.size:Int)=12
  case neg =>
   rw [if_neg c7] at H
   have c7b0:((a2.size:Int) == 12)=false:=beq_eq_false_iff_ne.mpr c7
   have c7b1:((a2.size:Int) != 12)=true:=bne_iff_ne.mpr c7
   have H':=zK H
   clear H
   go_wp2
   go_meet
   case rel=>exact ⟨_,(true),(by first|rfl|(simp; done)|(simp [*]; done)),H',⟨by first|omega|exact Nat.le_refl _⟩,⟨by repeat (first|(with_reducible first|exact HB.out|apply zA|apply zN|apply zD)|exact HB.out)⟩⟩
  rw [if_pos c7] at H
  have c7b0:((a2.size:Int) == 12)=true:=beq_iff_eq.mpr c7
  have c7b1:((a2.size:Int) != 12)=false:=bne_eq_false_iff_eq.mpr c7
  clear c7
  by_cases c8:a3<0
  case pos =>
   rw [if_pos c8] at H
   have c8b0:decide (a3<0)=true:=decide_eq_true c8
   clear c8
   have H':=zK H
   clear H
   go_wp2
   go_meet
   case rel=>exact ⟨_,(true),(by first|rfl|(simp; done)|(simp [*]; done)),H',⟨by first|omega|exact Nat.le_refl _⟩,⟨by repeat (first|(with_reducible first|exact HB.out|apply zA|apply zN|apply zD)|exact HB.out)⟩⟩
  rw [if_neg c8] at H
  have c8b0:decide (a3<0)=false:=decide_eq_false c8
  clear c8
  have H':=zK H
  clear H
  go_wp2
  go_meet
  case rel=>exact ⟨_,(decide (a3 > 1048576)),(by first|rfl|(simp; done)|(simp [*]; done)),H',⟨by first|omega|exact Nat.le_refl _⟩,⟨by repeat (first|(with_reducible first|exact HB.out|apply zA|apply zN|apply zD)|exact HB.out)⟩⟩
 case rest =>
  clear HC5
  try clear p2
  try clear c6
  try clear c6b0
  try clear c6b1
  try clear c7
  try clear c7b0
  try clear c7b1
  try clear c8
  try clear c8b0
  obtain ⟨kq,x26_4,rfl,HA,HJ4,HB⟩:=hcut
  cases kq with
  | zero=>exact absurd HA.out (by simp [legateref05_Stream.j0])
  | succ kj4 =>
   have H:=HA.out
   clear HA
   simp only [legateref05_Stream.j0] at H
   by_cases c9:x26_4=true
   case pos =>
    subst c9
    have H1:(some (⟨#[]⟩:ByteArray))=some r:=by rw [if_pos rfl] at H; exact H
    clear H
    have H:=H1
    clear H1
    obtain rfl:=Option.some.inj H
    go_wp2
    go_ret
    exact ⟨by first|rfl|(simp [errW_none,errW_some]<;>rfl)|(simp [*,errW_none,errW_some]<;>rfl),by repeat (first|(with_reducible first|exact HB.out|apply zA|apply zN|apply zD)|exact HB.out)⟩
   replace c9:=Bool.eq_false_iff.mpr c9
   subst c9
   have H1:(legateref05_Stream.l0 kj4 l0 a1 a2 a3 (⟨#[]⟩:ByteArray) 0)=some r:=by rw [if_neg (show ¬ (false=true) by decide)] at H; exact H
   clear H
   have H:=H1
   clear H1
   have H':=zK H
   clear H
   go_wp2
   go_loopg [9,10] kj4 (fun kq v9 v10 w'=>∃ (x9_2:ByteArray) (x10_2:Int),v9=.string x9_2∧v10=.int .i64 x10_2∧Aside0 (legateref05_Stream.l0 kq l0 a1 a2 a3 x9_2 x10_2=some r)∧Aside0 (kq≤kj4)∧Aside0 (Below w.heap.size w w'))
   case atStart=>exact ⟨((⟨#[]⟩:ByteArray)),(0),(by first|rfl|(simp; done)|(simp [*]; done)),(by first|rfl|(simp; done)|(simp [*]; done)),H',⟨Nat.le_refl _⟩,⟨by repeat (first|(with_reducible first|exact HB.out|apply zA|apply zN|apply zD)|exact HB.out)⟩⟩
   case round =>
    clear H'
    try clear p2
    try clear c6
    try clear c6b0
    try clear c6b1
    try clear c7
    try clear c7b0
    try clear c7b1
    try clear c8
    try clear c8b0
    try clear c9
    try clear p2
    obtain ⟨x9_2,x10_2,rfl,rfl,HA,HK2,HB⟩:=hrel
    cases gk with
    | zero=>exact absurd HA.out (by simp [legateref05_Stream.l0])
    | succ k2 =>
     have H:=HA.out
     clear HA
     simp only [legateref05_Stream.l0] at H
     by_cases c10:(x9_2.size:Int)<a3
     case neg =>
      rw [if_neg c10] at H
      have c10b0:decide ((x9_2.size:Int)<a3)=false:=decide_eq_false c10
      clear c10
      by_cases c18:0≤a3
      case neg =>
       rw [if_neg c18] at H
       exact absurd H (by simp)
      rw [if_pos c18] at H
      have c18b0:=eq_true c18
      have c18b1:decide (0≤a3)=true:=decide_eq_true c18
      clear c18
      by_cases c19:a3≤(x9_2.size:Int)
      case neg =>
       rw [if_neg c19] at H
       exact absurd H (by simp)
      rw [if_pos c19] at H
      have c19b0:=eq_true c19
      have c19b1:decide (a3≤(x9_2.size:Int))=true:=decide_eq_true c19
      clear c19
      obtain rfl:=Option.some.inj H
      go_wp2
      go_ret
      exact ⟨by first|rfl|(simp [errW_none,errW_some]<;>rfl)|(simp [*,errW_none,errW_some]<;>rfl),by repeat (first|(with_reducible first|exact HB.out|apply zA|apply zN|apply zD)|exact HB.out)⟩
     rw [if_pos c10] at H
     have c10b0:decide ((x9_2.size:Int)<a3)=true:=decide_eq_true c10
     clear c10
     obtain ⟨y490,hy490⟩:∃ y_:List Int,y_=(([(wrap64 (Int.tdiv x10_2 16777216)) % 256,(wrap64 (Int.tdiv x10_2 65536)) % 256,(wrap64 (Int.tdiv x10_2 256)) % 256,(x10_2) % 256]:List Int)):=⟨_,rfl⟩
     replace H:(if a2.size+(strOfNums y490).size≤9223372036854775807 then ((legateref04_Encrypt.f k2 l0 a1 (a2++(strOfNums y490))).bind fun t493=>(if x9_2.size+t493.size≤9223372036854775807 then (legateref05_Stream.l0 k2 l0 a1 a2 a3 (x9_2++t493) (wrap64 (x10_2+1))) else (none))) else (none))=some r:=by first|(rw [hy490]; with_reducible exact H)|(have H2_:=(Option.bind_some _ _).symm.trans H; rw [hy490]; with_reducible exact H2_)|(have H2_:=(Option.bind_some _ _).symm.trans H; with_reducible exact H2_)|with_reducible exact H|(rw [hy490]; exact H)|exact H
     have Ny490:=zK hy490
     clear hy490
     by_cases c11:a2.size+(strOfNums y490).size≤9223372036854775807
     case neg =>
      rw [if_neg c11] at H
      exact absurd H (by simp)
     rw [if_pos c11] at H
     have c11b0:=eq_true c11
     have c11b0z:=c11b0
     (try simp only [ByteArray.size_append,Int.natCast_add,show (⟨#[]⟩:ByteArray).size=0 from rfl] at c11b0z)
     have c11b1:decide (a2.size+(strOfNums y490).size≤9223372036854775807)=true:=decide_eq_true c11
     have c11b1z:=c11b1
     (try simp only [ByteArray.size_append,Int.natCast_add,show (⟨#[]⟩:ByteArray).size=0 from rfl] at c11b1z)
     try have c11b2:(9223372036854775807<a2.size+(strOfNums y490).size)=False:=eq_false (Nat.not_lt.2 c11)
     replace H:=Option.bind_eq_some_iff.mp H
     obtain ⟨t493,A120,H⟩:=H
     replace H:(if x9_2.size+t493.size≤9223372036854775807 then (legateref05_Stream.l0 k2 l0 a1 a2 a3 (x9_2++t493) (wrap64 (x10_2+1))) else (none))=some r:=H
     have A12:=zK A120
     clear A120
     by_cases c13:x9_2.size+t493.size≤9223372036854775807
     case neg =>
      rw [if_neg c13] at H
      exact absurd H (by simp)
     rw [if_pos c13] at H
     have c13b0:=eq_true c13
     have c13b0z:=c13b0
     (try simp only [ByteArray.size_append,Int.natCast_add] at c13b0z)
     have c13b1:decide (x9_2.size+t493.size≤9223372036854775807)=true:=decide_eq_true c13
     have c13b1z:=c13b1
     (try simp only [ByteArray.size_append,Int.natCast_add] at c13b1z)
     try have c13b2:(9223372036854775807<x9_2.size+t493.size)=False:=eq_false (Nat.not_lt.2 c13)
     have H':=zK H
     clear H
     go_wp2_with (first|((with_reducible refine gate_dst (N:=48) rfl ?_); (try (refine gate_guard (by rfl) ?_; dsimp only)); refine Kd.R_lit (Kd.int .u8) _ 5 ?hg (N:=48) ?hd (xs:=([(wrap64 (Int.tdiv x10_2 16777216)) % 256,(wrap64 (Int.tdiv x10_2 65536)) % 256,(wrap64 (Int.tdiv x10_2 256)) % 256,(x10_2) % 256]:List Int)) (inner:=[.int .u8 ((wrap64 (Int.tdiv x10_2 16777216)) % 256),.int .u8 ((wrap64 (Int.tdiv x10_2 65536)) % 256),.int .u8 ((wrap64 (Int.tdiv x10_2 256)) % 256),.int .u8 ((x10_2) % 256)]) (ok:=fun _=>True) (okp:=fun _=>True) ?hr ?hp (fun _ hk=>hk) trivial (Below.refl _ _) (Nat.le_refl _) (by simp) ?_; (case hd=>rfl); (case hg=>rfl); (case hr=>first|(go_simp; done)|(go_simp; rfl)); (case hp=>exact (Reps.one (show Kd.M (Kd.int .u8) _ _ _ ((wrap64 (Int.tdiv x10_2 16777216)) % 256) [.int .u8 ((wrap64 (Int.tdiv x10_2 16777216)) % 256)] from rfl) (Reps.one (show Kd.M (Kd.int .u8) _ _ _ ((wrap64 (Int.tdiv x10_2 65536)) % 256) [.int .u8 ((wrap64 (Int.tdiv x10_2 65536)) % 256)] from rfl) (Reps.one (show Kd.M (Kd.int .u8) _ _ _ ((wrap64 (Int.tdiv x10_2 256)) % 256) [.int .u8 ((wrap64 (Int.tdiv x10_2 256)) % 256)] from rfl) (Reps.one (show Kd.M (Kd.int .u8) _ _ _ ((x10_2) % 256) [.int .u8 ((x10_2) % 256)] from rfl) (Reps.none _ _)))))); intro v491 w14 ho15 hb hg_ hnew_; clear hg_ hnew_; (first|rw [← Ny490.out] at ho15|(simp only [Int.reduceToNat] at ho15; rw [← Ny490.out] at ho15)); have n0_:=zK (Kd.R_lower ho15 (below_size (by repeat (first|(with_reducible first|exact HB.out|apply zA|apply zN|apply zD)|exact HB.out)))); have n1_:=zK (below_step (by repeat (first|(with_reducible first|exact HB.out|apply zA|apply zN|apply zD)|exact HB.out)) hb); clear HB; have HO492:=n0_; have HB:=n1_; clear n0_ n1_; clear hb ho15; have hcv16:=own_string (P:=Tryd.prog) Tryd.underlying44 Tryd.underlying5 Tryd.underlying9 (Kd.own_of_R HO492.out))|((with_reducible refine gate_callee (f:=91) rfl ?_); refine goesL_ (some 51) rfl rfl Tryd.func91 (by kernel_rfl) rfl #[.slice A0 l0.length c0,.string a1,.string (a2++(strOfNums y490))] rfl (by (try simp only [zm]); first|done|rfl|(simp only [zl]; rfl)) ?_; (with_reducible refine (legateref04_Encrypt.calls k2 _ _ l0 a1 (a2++(strOfNums y490)) t493 _ ?side1 ?side2 A12.out).mono ?_); (case side1=>repeat (first|exact (Kd.C_below HR0.out HB.out)|(with_reducible refine Kd.C_alloc ?_ _)|(with_reducible refine Kd.C_drewN ?_ _)|(with_reducible refine Kd.C_drew ?_))); (case side2=>exact HC0.out); rintro e w17 ⟨rfl,hb⟩; refine ⟨_,rfl,?_⟩; have n0_:=zK (Kd.R_below (by (with_reducible repeat (first|apply Kd.R_alloc|apply Kd.R_drewN|apply Kd.R_drew)); exact HO492.out) hb); have n1_:=zK (below_step (by repeat (first|(with_reducible first|exact HB.out|apply zA|apply zN|apply zD)|exact HB.out)) hb); clear HO492; clear HB; have HO492:=n0_; have HB:=n1_; clear n0_ n1_; (try clear hb); (try clear hb2); (try clear hk); (try clear hi)))
     go_roundg k2
     case measure=>have:=HJ4.out; have:=HK2.out; omega
     case rel=>exact ⟨(x9_2++t493),(wrap64 (x10_2+1)),(by first|rfl|(simp; done)|(simp [*]; done)),(by first|rfl|(simp; done)|(simp [*]; done)),H',⟨by have:=HJ4.out; have:=HK2.out; omega⟩,⟨by repeat (first|(with_reducible first|exact HB.out|apply zA|apply zN|apply zD)|exact HB.out)⟩⟩
def legateref05_Cipher.l0:Nat→ByteArray→ByteArray→List Int→Int→Option (ByteArray)
  | 0,_,_,_,_=>none
  | k+1,x3,x9,x10,x11=>if x11<(x3.size:Int) then (if 0≤x11 then (if x11<(x9.size:Int) then (if x11<(x10.length:Int) then (legateref05_Cipher.l0 k x3 x9 (x10.set (x11:Int).toNat (Go.bits .xor .u8 (bt x3 x11) (bt x9 x11))) (wrap64 (x11+1))) else (none)) else (none)) else (none)) else (some (strOfNums x10))
def legateref05_Cipher.f (k:Nat) (l0:List Int) (a1:ByteArray) (a2:ByteArray) (a3:ByteArray):Option (ByteArray):=(legateref05_Stream.f k l0 a1 a2 (a3.size:Int)).bind fun t494=>(if (t494.size:Int)=(a3.size:Int) then (if 0≤(a3.size:Int) then (if ((a3.size:Int):Int).toNat≤281474976710656 then (legateref05_Cipher.l0 k a3 t494 (List.replicate ((a3.size:Int):Int).toNat 0) 0) else (none)) else (none)) else (some (⟨#[]⟩:ByteArray)))
def legateref05_Cipher.T8:Bool×List (List Nat×List Nat):=(true,[([],[]),([],[]),([],[]),([],[]),([2,3],[2,3]),([],[]),([],[]),([5,6],[5,6]),([4,7],[4,7]),([0,1,0,1,2,3,4,5,6,7,8],[0,1]),([9,8,0,1,2,3,4,5,6,7,8],[8,9])])
def legateref05_Cipher.B8:List Nat:=[0,0,0,0,12,0,0,96,252,511,1023]
theorem legateref05_Cipher.tab8:rtab .any (opsOf Tryd.f74 8)=legateref05_Cipher.T8:=by kernel_rfl
theorem legateref05_Cipher.bits8:waitsOk legateref05_Cipher.T8.2 legateref05_Cipher.B8=true:=by kernel_rfl
set_option maxHeartbeats 8000000 in
set_option maxRecDepth 100000 in
theorem legateref05_Cipher.calls (k:Nat) (A0:Option Addr) (c0:Nat) (l0:List Int) (a1:ByteArray) (a2:ByteArray) (a3:ByteArray) (r:ByteArray) (w:World) (hr0:Kd.C (Kd.int .u8) w A0 l0.length l0) (hc0:l0.length≤c0) (h:legateref05_Cipher.f k l0 a1 a2 a3=some r) :
 Calls Tryd.prog 74 #[.slice A0 l0.length c0,.string a1,.string a2,.string a3] w fun e w'=>e=.returned (.string r)∧Below w.heap.size w w':=by
 have HR0:=zK hr0
 have HC0:=zK hc0
 clear hr0 hc0
 have HB:=zK (Below.refl w.heap.size w)
 have H:((legateref05_Stream.f k l0 a1 a2 (a3.size:Int)).bind fun t494=>(if (t494.size:Int)=(a3.size:Int) then (if 0≤(a3.size:Int) then (if ((a3.size:Int):Int).toNat≤281474976710656 then (legateref05_Cipher.l0 k a3 t494 (List.replicate ((a3.size:Int):Int).toNat 0) 0) else (none)) else (none)) else (some (⟨#[]⟩:ByteArray))))=some r:=h
 clear h
 replace H:=Option.bind_eq_some_iff.mp H
 obtain ⟨t494,A50,H⟩:=H
 replace H:(if (t494.size:Int)=(a3.size:Int) then (if 0≤(a3.size:Int) then (if ((a3.size:Int):Int).toNat≤281474976710656 then (legateref05_Cipher.l0 k a3 t494 (List.replicate ((a3.size:Int):Int).toNat 0) 0) else (none)) else (none)) else (some (⟨#[]⟩:ByteArray)))=some r:=H
 have A5:=zK A50
 clear A50
 by_cases c6:(t494.size:Int)=(a3.size:Int)
 case neg =>
  rw [if_neg c6] at H
  have c6b0:((t494.size:Int) == (a3.size:Int))=false:=beq_eq_false_iff_ne.mpr c6
  have c6b1:((t494.size:Int) != (a3.size:Int))=true:=bne_iff_ne.mpr c6
  have c6b2:(t494.size == a3.size)=false:=by first|simpa using c6|(simp at c6 ⊢; omega)
  obtain rfl:=Option.some.inj H
  go_enter Tryd.func74,Tryd.ntmps74
  go_wp2_with (first|((with_reducible refine gate_callee (f:=84) rfl ?_); refine goesL_ (some 17) rfl rfl Tryd.func84 (by kernel_rfl) rfl #[.slice A0 l0.length c0,.string a1,.string a2,.int .i64 (a3.size:Int)] rfl (by (try simp only [zm]); first|done|rfl|(simp only [zl]; rfl)) ?_; (with_reducible refine (legateref05_Stream.calls k _ _ l0 a1 a2 (a3.size:Int) t494 _ ?side1 ?side2 A5.out).mono ?_); (case side1=>repeat (first|exact HR0.out|(with_reducible refine Kd.C_alloc ?_ _)|(with_reducible refine Kd.C_drewN ?_ _)|(with_reducible refine Kd.C_drew ?_))); (case side2=>exact HC0.out); rintro e w22 ⟨rfl,hb⟩; refine ⟨_,rfl,?_⟩; have n0_:=zK (below_step (by repeat (first|(with_reducible first|exact HB.out|apply zA|apply zN|apply zD)|exact HB.out)) hb); clear HB; have HB:=n0_; clear n0_; (try clear hb); (try clear hb2); (try clear hk); (try clear hi)))
  go_ret
  exact ⟨by first|rfl|(simp [errW_none,errW_some]<;>rfl)|(simp [*,errW_none,errW_some]<;>rfl),by repeat (first|(with_reducible first|exact HB.out|apply zA|apply zN|apply zD)|exact HB.out)⟩
 rw [if_pos c6] at H
 have c6b0:((t494.size:Int) == (a3.size:Int))=true:=beq_iff_eq.mpr c6
 have c6b1:((t494.size:Int) != (a3.size:Int))=false:=bne_eq_false_iff_eq.mpr c6
 have c6b2:(t494.size == a3.size)=true:=by first|simpa using c6|(simp at c6 ⊢; omega)
 clear c6
 by_cases c7:0≤(a3.size:Int)
 case neg =>
  rw [if_neg c7] at H
  exact absurd H (by simp)
 rw [if_pos c7] at H
 have c7b0:=eq_true c7
 have c7b1:decide (0≤(a3.size:Int))=true:=decide_eq_true c7
 clear c7
 by_cases c8:((a3.size:Int):Int).toNat≤281474976710656
 case neg =>
  rw [if_neg c8] at H
  exact absurd H (by simp)
 rw [if_pos c8] at H
 have c8b0:=eq_true c8
 have c8b1:decide (((a3.size:Int):Int).toNat≤281474976710656)=true:=decide_eq_true c8
 clear c8
 obtain ⟨y495,hy495⟩:∃ y_:List Int,y_=(List.replicate ((a3.size:Int):Int).toNat 0):=⟨_,rfl⟩
 replace H:(legateref05_Cipher.l0 k a3 t494 y495 0)=some r:=by first|(rw [hy495]; with_reducible exact H)|(have H2_:=(Option.bind_some _ _).symm.trans H; rw [hy495]; with_reducible exact H2_)|(have H2_:=(Option.bind_some _ _).symm.trans H; with_reducible exact H2_)|with_reducible exact H|(rw [hy495]; exact H)|exact H
 have Ny495:=zK hy495
 clear hy495
 have H':=zK H
 clear H
 go_enter Tryd.func74,Tryd.ntmps74
 go_wp2_with (first|((with_reducible refine gate_callee (f:=84) rfl ?_); refine goesL_ (some 17) rfl rfl Tryd.func84 (by kernel_rfl) rfl #[.slice A0 l0.length c0,.string a1,.string a2,.int .i64 (a3.size:Int)] rfl (by (try simp only [zm]); first|done|rfl|(simp only [zl]; rfl)) ?_; (with_reducible refine (legateref05_Stream.calls k _ _ l0 a1 a2 (a3.size:Int) t494 _ ?side1 ?side2 A5.out).mono ?_); (case side1=>repeat (first|exact HR0.out|(with_reducible refine Kd.C_alloc ?_ _)|(with_reducible refine Kd.C_drewN ?_ _)|(with_reducible refine Kd.C_drew ?_))); (case side2=>exact HC0.out); rintro e w9 ⟨rfl,hb⟩; refine ⟨_,rfl,?_⟩; have n0_:=zK (below_step (by repeat (first|(with_reducible first|exact HB.out|apply zA|apply zN|apply zD)|exact HB.out)) hb); clear HB; have HB:=n0_; clear n0_; (try clear hb); (try clear hb2); (try clear hk); (try clear hi))|((with_reducible refine gate_dst (N:=25) rfl ?_); refine Kd.R_make (Kd.int .u8) _ 5 rfl (N:=25) rfl 44 _ _ rfl (a3.size:Int) rfl rfl Tryd.underlying44 (.int .u8 0) 1 info5 rfl (by decide) (by omega) 0 (ok:=fun _=>True) (okp:=fun _=>True) rfl (fun _ hk=>hk) trivial (of_decide_eq_true (by first|(with_reducible assumption)|assumption)) (Nat.le_trans (Nat.mul_le_mul_right _ (of_decide_eq_true (by first|(with_reducible assumption)|assumption):(a3.size:Int).toNat≤281474976710656)) (by omega)) (Below.refl _ _) (Nat.le_refl _) ?_; intro v496 w10 ho11 hb hg_ hnew_; clear hg_ hnew_; (first|rw [← Ny495.out] at ho11|(simp only [Int.reduceToNat] at ho11; rw [← Ny495.out] at ho11)); have n0_:=zK (Kd.R_lower ho11 (below_size (by repeat (first|(with_reducible first|exact HB.out|apply zA|apply zN|apply zD)|exact HB.out)))); have n1_:=zK (below_step (by repeat (first|(with_reducible first|exact HB.out|apply zA|apply zN|apply zD)|exact HB.out)) hb); clear HB; have HO497:=n0_; have HB:=n1_; clear n0_ n1_; clear hb ho11))
 go_loopg [11] k (fun kq v11 w'=>∃ (x10_1:List Int) (x11_1:Int),v11=.int .i64 x11_1∧Aside0 (legateref05_Cipher.l0 kq a3 t494 x10_1 x11_1=some r)∧Aside0 (kq≤k)∧Aside0 (Kd.R (Kd.int .u8) 5 w' w.heap.size (fun _=>True) v496 x10_1)∧Aside0 (Below w.heap.size w w'))
 case atStart=>exact ⟨(y495),(0),(by first|rfl|(simp; done)|(simp [*]; done)),H',⟨Nat.le_refl _⟩,⟨by (with_reducible repeat (first|apply Kd.R_alloc|apply Kd.R_drewN|apply Kd.R_drew)); exact HO497.out⟩,⟨by repeat (first|(with_reducible first|exact HB.out|apply zA|apply zN|apply zD)|exact HB.out)⟩⟩
 case round =>
  clear H'
  try clear p2
  try clear c6
  try clear c6b0
  try clear c6b1
  try clear c6b2
  try clear c7
  try clear c7b0
  try clear c7b1
  try clear c8
  try clear c8b0
  try clear c8b1
  obtain ⟨x10_1,x11_1,rfl,HA,HK1,HO_10,HB⟩:=hrel
  cases gk with
  | zero=>exact absurd HA.out (by simp [legateref05_Cipher.l0])
  | succ k1 =>
   have H:=HA.out
   clear HA
   simp only [legateref05_Cipher.l0] at H
   by_cases c12:x11_1<(a3.size:Int)
   case neg =>
    rw [if_neg c12] at H
    have c12b0:decide (x11_1<(a3.size:Int))=false:=decide_eq_false c12
    clear c12
    obtain rfl:=Option.some.inj H
    have hcv21:=own_string (P:=Tryd.prog) Tryd.underlying44 Tryd.underlying5 Tryd.underlying9 (Kd.own_of_R HO_10.out)
    go_wp2
    go_ret
    exact ⟨by first|rfl|(simp [errW_none,errW_some]<;>rfl)|(simp [*,errW_none,errW_some]<;>rfl),by repeat (first|(with_reducible first|exact HB.out|apply zA|apply zN|apply zD)|exact HB.out)⟩
   rw [if_pos c12] at H
   have c12b0:decide (x11_1<(a3.size:Int))=true:=decide_eq_true c12
   clear c12
   by_cases c13:0≤x11_1
   case neg =>
    rw [if_neg c13] at H
    exact absurd H (by simp)
   rw [if_pos c13] at H
   have c13b0:decide (0≤x11_1)=true:=decide_eq_true c13
   clear c13
   by_cases c15:x11_1<(t494.size:Int)
   case neg =>
    rw [if_neg c15] at H
    exact absurd H (by simp)
   rw [if_pos c15] at H
   have c15b0:decide (x11_1<(t494.size:Int))=true:=decide_eq_true c15
   clear c15
   by_cases c17:x11_1<(x10_1.length:Int)
   case neg =>
    rw [if_neg c17] at H
    exact absurd H (by simp)
   rw [if_pos c17] at H
   have c17b0:decide (x11_1<(x10_1.length:Int))=true:=decide_eq_true c17
   clear c17
   obtain ⟨y498,hy498⟩:∃ y_:List Int,y_=(x10_1.set (x11_1:Int).toNat (Go.bits .xor .u8 (bt a3 x11_1) (bt t494 x11_1))):=⟨_,rfl⟩
   replace H:(legateref05_Cipher.l0 k1 a3 t494 y498 (wrap64 (x11_1+1)))=some r:=by first|(rw [hy498]; with_reducible exact H)|(have H2_:=(Option.bind_some _ _).symm.trans H; rw [hy498]; with_reducible exact H2_)|(have H2_:=(Option.bind_some _ _).symm.trans H; with_reducible exact H2_)|with_reducible exact H|(rw [hy498]; exact H)|exact H
   have Ny498:=zK hy498
   clear hy498
   have H':=zK H
   clear H
   try go_wp2
   have n0_:=zK (Kd.R_drew HO_10.out)
   have n1_:=zK (zD HB.out)
   clear HO_10
   clear HB
   have HO_10:=n0_
   have HB:=n1_
   clear n0_ n1_
   have p14:0≤(x11_1:Int):=of_decide_eq_true (by first|(with_reducible assumption)|assumption)
   have q14:x11_1<(a3.size:Int):=of_decide_eq_true (by first|(with_reducible assumption)|assumption)
   have hx14:=bt_at a3 x11_1
   replace p14:=eq_true p14
   replace q14:=eq_true q14
   have p16:0≤(x11_1:Int):=of_decide_eq_true (by first|(with_reducible assumption)|assumption)
   have q16:x11_1<(t494.size:Int):=of_decide_eq_true (by first|(with_reducible assumption)|assumption)
   have hx16:=bt_at t494 x11_1
   replace p16:=eq_true p16
   replace q16:=eq_true q16
   have p18:0≤(x11_1:Int):=of_decide_eq_true (by first|(with_reducible assumption)|assumption)
   have q18:(x11_1:Int)<((x10_1.length:Int):Int):=of_decide_eq_true (by first|(with_reducible assumption)|assumption)
   obtain ⟨go18,co18,eo18,gb18,gl18,cl18,HG18⟩:=Kd.R_form HO_10.out (by omega)
   (first|cases eo18|(injection eo18 with ea_ en_ ec_; (first|subst ea_|(injection ea_ with ea_; subst ea_)); subst ec_; clear en_))
   have GB18:=zK gb18
   have GG18:=zK HG18
   clear gb18 gl18 HG18
   obtain ⟨hx18_0,hf18_0⟩:=Kd.R_celln 0 HO_10.out (x11_1:Int) p18 q18
   replace p18:=eq_true p18
   replace q18:=eq_true q18
   have HP20:=Kd.R_putn HO_10.out (x11_1:Int) (Go.bits .xor .u8 (bt a3 x11_1) (bt t494 x11_1))
   rw [← Ny498.out] at HP20
   have HQ20:=zK HP20
   clear HP20
   refine start_ (n:=11) (S:=fun w'=>True) (ds:=[10]) #[G,G,G,G,G,G,G,G,G,G,G] (by kernel_rfl) rfl rfl trivial (fun hHeld=>?_); refine with_tabW legateref05_Cipher.tab8 legateref05_Cipher.bits8 (fun HT_ HW_=>?_)
   generalize wr.drew=w19 at HO_10 HB GG18 HQ20 hf18_0 hx18_0 hHeld ⊢
   refine zq 0 (some 32) ?_ #[O,G,G,G,G,G,G,G,G,G,G] rfl rfl (any_of HT_.out (by kernel_rfl)) (fun _ _ _ h=>h) (Or.inl ⟨by rfl,?_⟩) ?_ ?_ ?_
   rotate_left;(intro w';go_simp;with_reducible rfl);rotate_left;(simp only [Act.put,zp];rfl)
   refine zq 1 (some 33) ?_ #[O,O,G,G,G,G,G,G,G,G,G] rfl rfl (any_of HT_.out (by kernel_rfl)) (fun _ _ _ h=>h) (Or.inl ⟨by rfl,?_⟩) ?_ ?_ ?_
   rotate_left;(intro w';go_simp;with_reducible rfl);rotate_left;(simp only [Act.put,zp];rfl)
   refine zq 2 (some 34) ?_ #[O,O,O,G,G,G,G,G,G,G,G] rfl rfl (any_of HT_.out (by kernel_rfl)) (fun _ _ _ h=>h) (Or.inl ⟨by rfl,?_⟩) ?_ ?_ ?_
   rotate_left;(intro w';go_simp;with_reducible rfl);rotate_left;(simp only [Act.put,zp];rfl)
   refine zq 3 (some 35) ?_ #[O,O,O,O,G,G,G,G,G,G,G] rfl rfl (any_of HT_.out (by kernel_rfl)) (fun _ _ _ h=>h) (Or.inl ⟨by rfl,?_⟩) ?_ ?_ ?_
   rotate_left;(intro w';go_simp;with_reducible rfl);rotate_left;(simp only [Act.put,zp];rfl)
   refine zq 5 (some 37) ?_ #[O,O,O,O,G,O,G,G,G,G,G] rfl rfl (any_of HT_.out (by kernel_rfl)) (fun _ _ _ h=>h) (Or.inl ⟨by rfl,?_⟩) ?_ ?_ ?_
   rotate_left;(intro w';go_simp;with_reducible rfl);rotate_left;(simp only [Act.put,zp];rfl)
   refine zq 6 (some 38) ?_ #[O,O,O,O,G,O,O,G,G,G,G] rfl rfl (any_of HT_.out (by kernel_rfl)) (fun _ _ _ h=>h) (Or.inl ⟨by rfl,?_⟩) ?_ ?_ ?_
   rotate_left;(intro w';go_simp;with_reducible rfl);rotate_left;(simp only [Act.put,zp];rfl)
   refine take_ (i:=4) (N:=some 36) (v:=?_) (a':=?_) #[O,O,O,O,O,O,O,G,G,G,G] rfl rfl (take_ofW HT_.out HW_.out (by kernel_rfl)) (fun _ _ _ h=>h) (Or.inl ⟨by rfl,?_⟩) hHeld ?_ ?_
   rotate_left
   ·intro w' _
    go_simp
    with_reducible rfl
   rotate_left
   ·simp only [Act.put,zp]
    rfl
   refine take_ (i:=7) (N:=some 39) (v:=?_) (a':=?_) #[O,O,O,O,O,O,O,O,G,G,G] rfl rfl (take_ofW HT_.out HW_.out (by kernel_rfl)) (fun _ _ _ h=>h) (Or.inl ⟨by rfl,?_⟩) hHeld ?_ ?_
   rotate_left
   ·intro w' _
    go_simp
    with_reducible rfl
   rotate_left
   ·simp only [Act.put,zp]
    rfl
   refine zq 8 (some 40) ?_ #[O,O,O,O,O,O,O,O,O,G,G] rfl rfl (any_of HT_.out (by kernel_rfl)) (fun _ _ _ h=>h) (Or.inl ⟨by rfl,?_⟩) ?_ ?_ ?_
   rotate_left;(intro w';go_simp;with_reducible rfl);rotate_left;(simp only [Act.put,zp];rfl)
   refine zq 9 (some 41) ?_ #[O,O,O,O,O,O,O,O,O,O,G] rfl rfl (any_of HT_.out (by kernel_rfl)) (fun _ _ _ h=>h) (Or.inl ⟨by rfl,?_⟩) ?_ ?_ ?_
   rotate_left;(intro w';go_simp;with_reducible rfl);rotate_left;(simp only [Act.put,zp];rfl)
   refine last_ (i:=10) (N:=none) #[O,O,O,O,O,O,O,O,O,O,O] rfl rfl (one_of HT_.out (by kernel_rfl)) (by decide) (fun K hK=>?_)
   refine skip_ (w1:=?_) (by rfl) rfl ?_ ?_
   rotate_left
   ·go_simp
    rfl
   refine hK.out _ _ ?_
   clear hK K
   refine done_ (done_of HT_.out (by kernel_rfl)) ?_
   try go_wp2
   go_roundg k1
   case measure=>have:=HK1.out; omega
   case rel=>exact ⟨(y498),(wrap64 (x11_1+1)),(by first|rfl|(simp; done)|(simp [*]; done)),H',⟨by have:=HK1.out; omega⟩,⟨by (with_reducible repeat (first|apply Kd.R_alloc|apply Kd.R_drewN|apply Kd.R_drew)); exact HQ20.out⟩,⟨by repeat (first|(with_reducible first|exact HB.out|apply zA|apply zN|apply zD|refine below_set ?_ GB18.out)|exact HB.out)⟩⟩
end Go.Proofs.YtkgijkfcmbpgpaaDoor.PAll
end
