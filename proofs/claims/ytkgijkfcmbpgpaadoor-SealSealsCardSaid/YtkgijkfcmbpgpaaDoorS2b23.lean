import Derived.Test.YtkgijkfcmbpgpaaDoorS2b0
import Derived.Test.YtkgijkfcmbpgpaaDoorS2b1
import Derived.Test.YtkgijkfcmbpgpaaDoorS2b16
import Derived.Test.YtkgijkfcmbpgpaaDoorS2b17
import Derived.Test.YtkgijkfcmbpgpaaDoorS2b2
import Derived.Test.YtkgijkfcmbpgpaaDoorS2b21
section
namespace Go.Proofs.YtkgijkfcmbpgpaaDoor.PAll
open Go.RowKit Go.Proofs.YtkgijkfcmbpgpaaDoorW.PrintWords Go.Proofs.YtkgijkfcmbpgpaaDoorW.PrintLast Go.Proofs.YtkgijkfcmbpgpaaDoorW.PrintMore
attribute [local go_sem] max2_int min2_int max_two min_two max_three min_three max_four min_four
set_option linter.unusedVariables false
set_option linter.unusedSimpArgs false
def legateref07_World_Open.f (k:Nat) (l0_0:List Int) (a0_1:ByteArray) (l0_2:List Int) (a1:ByteArray) (a2:Int) (a3:ByteArray):Option (ByteArray×Int):=if (a3.size:Int)<44 then (some ((⟨#[]⟩:ByteArray),10)) else (if (a3.size:Int) > 65580 then (some ((⟨#[]⟩:ByteArray),11)) else ((legateref06_Sum.f k l0_0 a0_1 a1 a2).bind fun t505=>(if 0≤(wrap64 ((a3.size:Int) - 32)) then (if (wrap64 ((a3.size:Int) - 32))≤(a3.size:Int) then ((legateref03_Tables_Mac.f k l0_0 a0_1 t505 (a3.extract 0 ((wrap64 ((a3.size:Int) - 32)):Int).toNat)).bind fun t506=>(if t506.toList=(a3.extract ((wrap64 ((a3.size:Int) - 32)):Int).toNat a3.size).toList then ((legateref06_Cipher.f k l0_0 a0_1 a1 a2).bind fun t507=>(if 0≤12 then (if 12≤(a3.size:Int) then (if 12≤(wrap64 ((a3.size:Int) - 32)) then ((legateref05_Cipher.f k l0_2 t507 (a3.extract 0 12) (a3.extract 12 ((wrap64 ((a3.size:Int) - 32)):Int).toNat)).bind fun t508=>(some (t508,0))) else (none)) else (none)) else (none))) else (some ((⟨#[]⟩:ByteArray),20)))) else (none)) else (none))))
def legateref07_World_Open.T6:Bool×List (List Nat×List Nat):=(true,[([],[]),([0],[0]),([],[]),([2],[2]),([],[]),([],[]),([3,4,5],[3,4,5]),([],[]),([],[]),([7,8],[7,8]),([1,6,9,6],[1,6,9]),([],[]),([],[]),([11,12],[11,12]),([10,13],[10,13])])
def legateref07_World_Open.B6:List Nat:=[0,1,0,4,0,0,60,0,0,384,1023,0,0,6144,16383]
theorem legateref07_World_Open.tab6:rtab .any (opsOf Tryd.f52 6)=legateref07_World_Open.T6:=by kernel_rfl
theorem legateref07_World_Open.bits6:waitsOk legateref07_World_Open.T6.2 legateref07_World_Open.B6=true:=by kernel_rfl
def legateref07_World_Open.T8:Bool×List (List Nat×List Nat):=(true,[([],[]),([0],[0]),([],[]),([2],[2]),([],[]),([],[]),([3,4,5],[3,4,5]),([],[]),([7],[7]),([],[]),([],[]),([9,10],[9,10]),([1,6,8,11,6],[1,6,8,11]),([12,12,0,1,2,3,4,5,6,7,8,9,10,11,12],[12]),([13,0,1,2,3,4,5,6,7,8,9,10,11,12,13],[])])
def legateref07_World_Open.B8:List Nat:=[0,1,0,4,0,0,60,0,128,0,0,1536,4095,8191,16383]
theorem legateref07_World_Open.tab8:rtab .any (opsOf Tryd.f52 8)=legateref07_World_Open.T8:=by kernel_rfl
theorem legateref07_World_Open.bits8:waitsOk legateref07_World_Open.T8.2 legateref07_World_Open.B8=true:=by kernel_rfl
set_option maxHeartbeats 8000000 in
set_option maxRecDepth 100000 in
theorem legateref07_World_Open.calls (k:Nat) (A0_0:Option Addr) (c0_0:Nat) (l0_0:List Int) (a0_1:ByteArray) (A0_2:Option Addr) (c0_2:Nat) (l0_2:List Int) (a1:ByteArray) (a2:Int) (a3:ByteArray) (r1:ByteArray) (r2:Int) (w:World) (hr0_0:Kd.C (Kd.int .i64) w A0_0 l0_0.length l0_0) (hc0_0:l0_0.length≤c0_0) (hr0_2:Kd.C (Kd.int .u8) w A0_2 l0_2.length l0_2) (hc0_2:l0_2.length≤c0_2) (h:legateref07_World_Open.f k l0_0 a0_1 l0_2 a1 a2 a3=some (r1,r2)) :
 Calls Tryd.prog 52 #[.agg #[.slice A0_0 l0_0.length c0_0,.string a0_1,.slice A0_2 l0_2.length c0_2],.string a1,.int .i64 a2,.string a3] w fun e w'=>e=.returned (.tuple #[.string r1,.int .i64 r2])∧Below w.heap.size w w':=by
 have hu52:=Tryd.underlying52
 have hu42:=Tryd.underlying42
 have HR0_0:=zK hr0_0
 have HC0_0:=zK hc0_0
 clear hr0_0 hc0_0
 have HR0_2:=zK hr0_2
 have HC0_2:=zK hc0_2
 clear hr0_2 hc0_2
 have HB:=zK (Below.refl w.heap.size w)
 have H:(if (a3.size:Int)<44 then (some ((⟨#[]⟩:ByteArray),10)) else (if (a3.size:Int) > 65580 then (some ((⟨#[]⟩:ByteArray),11)) else ((legateref06_Sum.f k l0_0 a0_1 a1 a2).bind fun t505=>(if 0≤(wrap64 ((a3.size:Int) - 32)) then (if (wrap64 ((a3.size:Int) - 32))≤(a3.size:Int) then ((legateref03_Tables_Mac.f k l0_0 a0_1 t505 (a3.extract 0 ((wrap64 ((a3.size:Int) - 32)):Int).toNat)).bind fun t506=>(if t506.toList=(a3.extract ((wrap64 ((a3.size:Int) - 32)):Int).toNat a3.size).toList then ((legateref06_Cipher.f k l0_0 a0_1 a1 a2).bind fun t507=>(if 0≤12 then (if 12≤(a3.size:Int) then (if 12≤(wrap64 ((a3.size:Int) - 32)) then ((legateref05_Cipher.f k l0_2 t507 (a3.extract 0 12) (a3.extract 12 ((wrap64 ((a3.size:Int) - 32)):Int).toNat)).bind fun t508=>(some (t508,0))) else (none)) else (none)) else (none))) else (some ((⟨#[]⟩:ByteArray),20)))) else (none)) else (none)))))=some (r1,r2):=h
 clear h
 by_cases c5:(a3.size:Int)<44
 case pos =>
  rw [if_pos c5] at H
  have c5b0:decide ((a3.size:Int)<44)=true:=decide_eq_true c5
  have c5b1:decide (a3.size<44)=true:=decide_eq_true (by omega)
  clear c5
  simp only [Option.some.injEq,Prod.mk.injEq] at H
  obtain ⟨rfl,rfl⟩:=H
  go_enter Tryd.func52,Tryd.ntmps52
  go_wp2_with (first|((with_reducible refine gate_dst (N:=4) rfl ?_); refine box_event ?hg (N:=4) ?hd (cs:=#[.slice A0_0 l0_0.length c0_0,.string a0_1,.slice A0_2 l0_2.length c0_2]) (t:=52) ?hr ?_; (case hd=>rfl); (case hg=>rfl); (case hr=>first|(go_simp; done)|(go_simp; rfl)); intro gb504 hg w6 hbox hb; have n0_:=zK (below_step (by repeat (first|(with_reducible first|exact HB.out|apply zA|apply zN|apply zD)|exact HB.out)) hb); have n1_:=zK (hbox); have n2_:=zK ((by rw [hg]; exact (below_size (by repeat (first|(with_reducible first|exact HB.out|apply zA|apply zN|apply zD)|exact HB.out))):w.heap.size≤gb504)); have n3_:=zK ((by rw [hg]; exact (below_size (by repeat (first|(with_reducible first|exact HB.out|apply zA|apply zN|apply zD)|exact HB.out))):w.heap.size≤gb504)); clear HB; have HB:=n0_; have BK504:=n1_; have GW504:=n2_; have GE504:=n3_; clear n0_ n1_ n2_ n3_; clear hb hbox hg))
  go_ret2
  exact ⟨by first|rfl|(simp [errW_none,errW_some]<;>rfl)|(simp [*,errW_none,errW_some]<;>rfl),by repeat (first|(with_reducible first|exact HB.out|apply zA|apply zN|apply zD|refine below_set ?_ GE504.out)|exact HB.out)⟩
 rw [if_neg c5] at H
 have c5b0:decide ((a3.size:Int)<44)=false:=decide_eq_false c5
 have c5b1:decide (a3.size<44)=false:=decide_eq_false (by omega)
 clear c5
 by_cases c7:(a3.size:Int) > 65580
 case pos =>
  rw [if_pos c7] at H
  have c7b0:decide (65580<(a3.size:Int))=true:=decide_eq_true c7
  have c7b1:decide (65580<a3.size)=true:=decide_eq_true (by omega)
  clear c7
  simp only [Option.some.injEq,Prod.mk.injEq] at H
  obtain ⟨rfl,rfl⟩:=H
  go_enter Tryd.func52,Tryd.ntmps52
  go_wp2_with (first|((with_reducible refine gate_dst (N:=4) rfl ?_); refine box_event ?hg (N:=4) ?hd (cs:=#[.slice A0_0 l0_0.length c0_0,.string a0_1,.slice A0_2 l0_2.length c0_2]) (t:=52) ?hr ?_; (case hd=>rfl); (case hg=>rfl); (case hr=>first|(go_simp; done)|(go_simp; rfl)); intro gb504 hg w8 hbox hb; have n0_:=zK (below_step (by repeat (first|(with_reducible first|exact HB.out|apply zA|apply zN|apply zD)|exact HB.out)) hb); have n1_:=zK (hbox); have n2_:=zK ((by rw [hg]; exact (below_size (by repeat (first|(with_reducible first|exact HB.out|apply zA|apply zN|apply zD)|exact HB.out))):w.heap.size≤gb504)); have n3_:=zK ((by rw [hg]; exact (below_size (by repeat (first|(with_reducible first|exact HB.out|apply zA|apply zN|apply zD)|exact HB.out))):w.heap.size≤gb504)); clear HB; have HB:=n0_; have BK504:=n1_; have GW504:=n2_; have GE504:=n3_; clear n0_ n1_ n2_ n3_; clear hb hbox hg))
  go_ret2
  exact ⟨by first|rfl|(simp [errW_none,errW_some]<;>rfl)|(simp [*,errW_none,errW_some]<;>rfl),by repeat (first|(with_reducible first|exact HB.out|apply zA|apply zN|apply zD|refine below_set ?_ GE504.out)|exact HB.out)⟩
 rw [if_neg c7] at H
 have c7b0:decide (65580<(a3.size:Int))=false:=decide_eq_false c7
 have c7b1:decide (65580<a3.size)=false:=decide_eq_false (by omega)
 clear c7
 replace H:=Option.bind_eq_some_iff.mp H
 obtain ⟨t505,A90,H⟩:=H
 replace H:(if 0≤(wrap64 ((a3.size:Int) - 32)) then (if (wrap64 ((a3.size:Int) - 32))≤(a3.size:Int) then ((legateref03_Tables_Mac.f k l0_0 a0_1 t505 (a3.extract 0 ((wrap64 ((a3.size:Int) - 32)):Int).toNat)).bind fun t506=>(if t506.toList=(a3.extract ((wrap64 ((a3.size:Int) - 32)):Int).toNat a3.size).toList then ((legateref06_Cipher.f k l0_0 a0_1 a1 a2).bind fun t507=>(if 0≤12 then (if 12≤(a3.size:Int) then (if 12≤(wrap64 ((a3.size:Int) - 32)) then ((legateref05_Cipher.f k l0_2 t507 (a3.extract 0 12) (a3.extract 12 ((wrap64 ((a3.size:Int) - 32)):Int).toNat)).bind fun t508=>(some (t508,0))) else (none)) else (none)) else (none))) else (some ((⟨#[]⟩:ByteArray),20)))) else (none)) else (none))=some (r1,r2):=H
 have A9:=zK A90
 clear A90
 obtain ⟨ji10,hji10⟩:∃ j_:Int,(wrap64 ((a3.size:Int) - 32))=j_:=⟨_,rfl⟩
 replace H:(if 0≤(ji10) then (if (ji10)≤(a3.size:Int) then ((legateref03_Tables_Mac.f k l0_0 a0_1 t505 (a3.extract 0 ((ji10):Int).toNat)).bind fun t506=>(if t506.toList=(a3.extract ((ji10):Int).toNat a3.size).toList then ((legateref06_Cipher.f k l0_0 a0_1 a1 a2).bind fun t507=>(if 0≤12 then (if 12≤(a3.size:Int) then (if 12≤(ji10) then ((legateref05_Cipher.f k l0_2 t507 (a3.extract 0 12) (a3.extract 12 ((ji10):Int).toNat)).bind fun t508=>(some (t508,0))) else (none)) else (none)) else (none))) else (some ((⟨#[]⟩:ByteArray),20)))) else (none)) else (none))=some (r1,r2):=by first|(rw [hji10] at H; exact H)|(simp only [hji10] at H ⊢; exact H)
 (try rw [hji10] at A9)
 have hji10w:(IntKind.i64.wrap ((a3.size:Int) - 32))=ji10:=(i64_w _).trans hji10
 by_cases c11:0≤(ji10)
 case neg =>
  rw [if_neg c11] at H
  exact absurd H (by simp)
 rw [if_pos c11] at H
 have c11b0:=eq_true c11
 have c11b1:decide (0≤(ji10))=true:=decide_eq_true c11
 clear c11
 by_cases c12:(ji10)≤(a3.size:Int)
 case neg =>
  rw [if_neg c12] at H
  exact absurd H (by simp)
 rw [if_pos c12] at H
 have c12b0:=eq_true c12
 have c12b1:decide ((ji10)≤(a3.size:Int))=true:=decide_eq_true c12
 clear c12
 replace H:=Option.bind_eq_some_iff.mp H
 obtain ⟨t506,A130,H⟩:=H
 replace H:(if t506.toList=(a3.extract ((ji10):Int).toNat a3.size).toList then ((legateref06_Cipher.f k l0_0 a0_1 a1 a2).bind fun t507=>(if 0≤12 then (if 12≤(a3.size:Int) then (if 12≤(ji10) then ((legateref05_Cipher.f k l0_2 t507 (a3.extract 0 12) (a3.extract 12 ((ji10):Int).toNat)).bind fun t508=>(some (t508,0))) else (none)) else (none)) else (none))) else (some ((⟨#[]⟩:ByteArray),20)))=some (r1,r2):=H
 have A13:=zK A130
 clear A130
 have c14b0:=eq_true (of_decide_eq_true (by first|(with_reducible assumption)|assumption):0≤(ji10))
 have c15b0:=eq_true (of_decide_eq_true (by first|(with_reducible assumption)|assumption):(ji10)≤(a3.size:Int))
 by_cases c16:t506.toList=(a3.extract ((ji10):Int).toNat a3.size).toList
 case neg =>
  rw [if_neg c16] at H
  have c16b0:(t506.toList == (a3.extract ((ji10):Int).toNat a3.size).toList)=false:=beq_eq_false_iff_ne.mpr c16
  have c16b1:(t506.toList != (a3.extract ((ji10):Int).toNat a3.size).toList)=true:=bne_iff_ne.mpr c16
  simp only [Option.some.injEq,Prod.mk.injEq] at H
  obtain ⟨rfl,rfl⟩:=H
  go_enter Tryd.func52,Tryd.ntmps52
  try go_wp2_with (first|((with_reducible refine gate_dst (N:=4) rfl ?_); refine box_event ?hg (N:=4) ?hd (cs:=#[.slice A0_0 l0_0.length c0_0,.string a0_1,.slice A0_2 l0_2.length c0_2]) (t:=52) ?hr ?_; (case hd=>rfl); (case hg=>rfl); (case hr=>first|(go_simp; done)|(go_simp; rfl)); intro gb504 hg w30 hbox hb; have n0_:=zK (below_step (by repeat (first|(with_reducible first|exact HB.out|apply zA|apply zN|apply zD)|exact HB.out)) hb); have n1_:=zK (hbox); have n2_:=zK ((by rw [hg]; exact (below_size (by repeat (first|(with_reducible first|exact HB.out|apply zA|apply zN|apply zD)|exact HB.out))):w.heap.size≤gb504)); have n3_:=zK ((by rw [hg]; exact (below_size (by repeat (first|(with_reducible first|exact HB.out|apply zA|apply zN|apply zD)|exact HB.out))):w.heap.size≤gb504)); clear HB; have HB:=n0_; have BK504:=n1_; have GW504:=n2_; have GE504:=n3_; clear n0_ n1_ n2_ n3_; clear hb hbox hg))
  have n0_:=zK (blk_drew BK504.out)
  have n1_:=zK (zD HB.out)
  clear BK504
  clear HB
  have BK504:=n0_
  have HB:=n1_
  clear n0_ n1_
  refine start_ (n:=15) (S:=fun w'=>w'.cell? ⟨gb504,0,none⟩=some (.slice A0_0 l0_0.length c0_0)∧w'.cell? ⟨gb504,1,none⟩=some (.string a0_1)∧w'.cell? ⟨gb504,2,none⟩=some (.slice A0_2 l0_2.length c0_2)) (ds:=[]) #[G,G,G,G,G,G,G,G,G,G,G,G,G,G,G] (by kernel_rfl) rfl rfl ⟨(blk_cell BK504.out 0).trans rfl,(blk_cell BK504.out 1).trans rfl,(blk_cell BK504.out 2).trans rfl⟩ (fun hHeld=>?_); refine with_tabW legateref07_World_Open.tab6 legateref07_World_Open.bits6 (fun HT_ HW_=>?_)
  generalize w30.drew=w31 at BK504 HB hHeld ⊢
  refine zq 0 (some 20) ?_ #[O,G,G,G,G,G,G,G,G,G,G,G,G,G,G] rfl rfl (any_of HT_.out (by kernel_rfl)) (fun _ _ _ h=>h) (Or.inl ⟨by rfl,?_⟩) ?_ ?_ ?_
  rotate_left;(intro w';go_simp;with_reducible rfl);rotate_left;(simp only [Act.put,zp];rfl)
  refine zq 2 (some 22) ?_ #[O,G,O,G,G,G,G,G,G,G,G,G,G,G,G] rfl rfl (any_of HT_.out (by kernel_rfl)) (fun _ _ _ h=>h) (Or.inl ⟨by rfl,?_⟩) ?_ ?_ ?_
  rotate_left;(intro w';go_simp;with_reducible rfl);rotate_left;(simp only [Act.put,zp];rfl)
  refine zq 4 (some 24) ?_ #[O,G,O,G,O,G,G,G,G,G,G,G,G,G,G] rfl rfl (any_of HT_.out (by kernel_rfl)) (fun _ _ _ h=>h) (Or.inl ⟨by rfl,?_⟩) ?_ ?_ ?_
  rotate_left;(intro w';go_simp;with_reducible rfl);rotate_left;(simp only [Act.put,zp];rfl)
  refine zq 5 (some 25) ?_ #[O,G,O,G,O,O,G,G,G,G,G,G,G,G,G] rfl rfl (any_of HT_.out (by kernel_rfl)) (fun _ _ _ h=>h) (Or.inl ⟨by rfl,?_⟩) ?_ ?_ ?_
  rotate_left;(intro w';go_simp;with_reducible rfl);rotate_left;(simp only [Act.put,zp];rfl)
  refine zq 7 (some 27) ?_ #[O,G,O,G,O,O,G,O,G,G,G,G,G,G,G] rfl rfl (any_of HT_.out (by kernel_rfl)) (fun _ _ _ h=>h) (Or.inl ⟨by rfl,?_⟩) ?_ ?_ ?_
  rotate_left;(intro w';go_simp;with_reducible rfl);rotate_left;(simp only [Act.put,zp];rfl)
  refine zq 8 (some 28) ?_ #[O,G,O,G,O,O,G,O,O,G,G,G,G,G,G] rfl rfl (any_of HT_.out (by kernel_rfl)) (fun _ _ _ h=>h) (Or.inl ⟨by rfl,?_⟩) ?_ ?_ ?_
  rotate_left;(intro w';go_simp;with_reducible rfl);rotate_left;(simp only [Act.put,zp];rfl)
  refine zq 9 (some 29) ?_ #[O,G,O,G,O,O,G,O,O,O,G,G,G,G,G] rfl rfl (any_of HT_.out (by kernel_rfl)) (fun _ _ _ h=>h) (Or.inl ⟨by rfl,?_⟩) ?_ ?_ ?_
  rotate_left;(intro w';go_simp;with_reducible rfl);rotate_left;(simp only [Act.put,zp];rfl)
  refine zq 11 (some 31) ?_ #[O,G,O,G,O,O,G,O,O,O,G,O,G,G,G] rfl rfl (any_of HT_.out (by kernel_rfl)) (fun _ _ _ h=>h) (Or.inl ⟨by rfl,?_⟩) ?_ ?_ ?_
  rotate_left;(intro w';go_simp;with_reducible rfl);rotate_left;(simp only [Act.put,zp];rfl)
  refine zq 12 (some 32) ?_ #[O,G,O,G,O,O,G,O,O,O,G,O,O,G,G] rfl rfl (any_of HT_.out (by kernel_rfl)) (fun _ _ _ h=>h) (Or.inl ⟨by rfl,?_⟩) ?_ ?_ ?_
  rotate_left;(intro w';go_simp;with_reducible rfl);rotate_left;(simp only [Act.put,zp];rfl)
  refine zq 13 (some 33) ?_ #[O,G,O,G,O,O,G,O,O,O,G,O,O,O,G] rfl rfl (any_of HT_.out (by kernel_rfl)) (fun _ _ _ h=>h) (Or.inl ⟨by rfl,?_⟩) ?_ ?_ ?_
  rotate_left;(intro w';go_simp;with_reducible rfl);rotate_left;(simp only [Act.put,zp];rfl)
  refine take_ (i:=1) (N:=some 21) (v:=?_) (a':=?_) #[O,O,O,G,O,O,G,O,O,O,G,O,O,O,G] rfl rfl (take_ofW HT_.out HW_.out (by kernel_rfl)) (fun _ _ _ h=>h) (Or.inl ⟨by rfl,?_⟩) hHeld ?_ ?_
  rotate_left
  ·rintro w' ⟨s0,s1,s2⟩
   go_simp
   with_reducible rfl
  rotate_left
  ·simp only [Act.put,zp]
   rfl
  refine take_ (i:=3) (N:=some 23) (v:=?_) (a':=?_) #[O,O,O,O,O,O,G,O,O,O,G,O,O,O,G] rfl rfl (take_ofW HT_.out HW_.out (by kernel_rfl)) (fun _ _ _ h=>h) (Or.inl ⟨by rfl,?_⟩) hHeld ?_ ?_
  rotate_left
  ·rintro w' ⟨s0,s1,s2⟩
   go_simp
   with_reducible rfl
  rotate_left
  ·simp only [Act.put,zp]
   rfl
  refine one_ (i:=6) (N:=some 26) #[O,O,O,O,O,O,O,O,O,O,G,O,O,O,G] rfl rfl (one_of HT_.out (by kernel_rfl)) (by decide) (fun K hK=>?_)
  refine goes_ Tryd.func45 (by kernel_rfl) rfl #[.agg #[.slice A0_0 l0_0.length c0_0,.string a0_1],.string a1,.int .i64 a2] (by rfl) rfl rfl (by (try simp only [zm]); first|done|rfl|(simp only [zl]; rfl)) ?_
  with_reducible refine (legateref06_Sum.calls k _ _ l0_0 a0_1 a1 a2 t505 _ ?side1 ?side2 A9.out).mono ?_
  (case side1=>repeat (first|exact (Kd.C_below HR0_0.out HB.out)|(with_reducible refine Kd.C_alloc ?_ _)|(with_reducible refine Kd.C_drewN ?_ _)|(with_reducible refine Kd.C_drew ?_)))
  (case side2=>exact HC0_0.out)
  rintro e w32 ⟨rfl,hb⟩
  refine ⟨_,rfl,?_⟩
  have n0_:=zK (blk_below (g:=gb504) (o:=.cells #[.slice A0_0 l0_0.length c0_0,.string a0_1,.slice A0_2 l0_2.length c0_2] 52 (0,0)) (by (with_reducible repeat (first|refine blk_drewN ?_ _|refine blk_drew ?_|refine blk_alloc ?_ _)); exact BK504.out) hb)
  have n1_:=zK (below_step (by repeat (first|(with_reducible first|exact HB.out|apply zA|apply zN|apply zD|refine below_set ?_ GE504.out)|exact HB.out)) hb)
  clear BK504
  clear HB
  have BK504:=n0_
  have HB:=n1_
  clear n0_ n1_
  (try clear hb)
  (try clear hb2)
  (try clear hk)
  (try clear hi)
  refine hK.out _ _ ⟨(blk_cell BK504.out 0).trans rfl,(blk_cell BK504.out 1).trans rfl,(blk_cell BK504.out 2).trans rfl⟩ (fun hHeld=>?_)
  clear hK K
  refine norm_ (a':=?_) ?_ ?_
  rotate_left
  ·show Act.put _ (some 26) _=_
   simp only [Act.put,zp]
   rfl
  refine one_ (i:=10) (N:=some 30) #[O,O,O,O,O,O,O,O,O,O,O,O,O,O,G] rfl rfl (one_of HT_.out (by kernel_rfl)) (by decide) (fun K hK=>?_)
  refine goes_ Tryd.func36 (by kernel_rfl) rfl #[.agg #[.slice A0_0 l0_0.length c0_0,.string a0_1],.string t505,.string (a3.extract 0 ((ji10):Int).toNat)] (by rfl) rfl rfl (by (try simp only [zm]); first|done|(simp only [hji10]; rfl)|rfl|(simp only [zl]; rfl)) ?_
  with_reducible refine (legateref03_Tables_Mac.calls k _ _ l0_0 a0_1 t505 (a3.extract 0 ((ji10):Int).toNat) t506 _ ?side1 ?side2 A13.out).mono ?_
  (case side1=>repeat (first|exact (Kd.C_below HR0_0.out HB.out)|(with_reducible refine Kd.C_alloc ?_ _)|(with_reducible refine Kd.C_drewN ?_ _)|(with_reducible refine Kd.C_drew ?_)))
  (case side2=>exact HC0_0.out)
  rintro e w33 ⟨rfl,hb⟩
  refine ⟨_,rfl,?_⟩
  have n0_:=zK (blk_below (g:=gb504) (o:=.cells #[.slice A0_0 l0_0.length c0_0,.string a0_1,.slice A0_2 l0_2.length c0_2] 52 (0,0)) (by (with_reducible repeat (first|refine blk_drewN ?_ _|refine blk_drew ?_|refine blk_alloc ?_ _)); exact BK504.out) hb)
  have n1_:=zK (below_step (by repeat (first|(with_reducible first|exact HB.out|apply zA|apply zN|apply zD|refine below_set ?_ GE504.out)|exact HB.out)) hb)
  clear BK504
  clear HB
  have BK504:=n0_
  have HB:=n1_
  clear n0_ n1_
  (try clear hb)
  (try clear hb2)
  (try clear hk)
  (try clear hi)
  refine hK.out _ _ ⟨(blk_cell BK504.out 0).trans rfl,(blk_cell BK504.out 1).trans rfl,(blk_cell BK504.out 2).trans rfl⟩ (fun hHeld=>?_)
  clear hK K
  refine norm_ (a':=?_) ?_ ?_
  rotate_left
  ·show Act.put _ (some 30) _=_
   simp only [Act.put,zp]
   rfl
  refine zq 14 (some 34) ?_ #[O,O,O,O,O,O,O,O,O,O,O,O,O,O,O] rfl rfl (any_of HT_.out (by kernel_rfl)) (fun _ _ _ h=>h) (Or.inl ⟨by rfl,?_⟩) ?_ ?_ ?_
  rotate_left;(intro w';go_simp;with_reducible rfl);rotate_left;(simp only [Act.put,zp];rfl)
  refine done_ (done_of HT_.out (by kernel_rfl)) ?_
  try go_wp2
  go_ret2
  exact ⟨by first|rfl|(simp [errW_none,errW_some]<;>rfl)|(simp only [← hji10]; first|rfl|(simp [errW_none,errW_some]<;>rfl))|(simp [*,errW_none,errW_some]<;>rfl),by repeat (first|(with_reducible first|exact HB.out|apply zA|apply zN|apply zD|refine below_set ?_ GE504.out)|exact HB.out)⟩
 rw [if_pos c16] at H
 have c16b0:(t506.toList == (a3.extract ((ji10):Int).toNat a3.size).toList)=true:=beq_iff_eq.mpr c16
 have c16b1:(t506.toList != (a3.extract ((ji10):Int).toNat a3.size).toList)=false:=bne_eq_false_iff_eq.mpr c16
 clear c16
 replace H:=Option.bind_eq_some_iff.mp H
 obtain ⟨t507,A170,H⟩:=H
 replace H:(if 0≤12 then (if 12≤(a3.size:Int) then (if 12≤(ji10) then ((legateref05_Cipher.f k l0_2 t507 (a3.extract 0 12) (a3.extract 12 ((ji10):Int).toNat)).bind fun t508=>(some (t508,0))) else (none)) else (none)) else (none))=some (r1,r2):=H
 have A17:=zK A170
 clear A170
 by_cases c18:0≤12
 case neg =>
  rw [if_neg c18] at H
  exact absurd H (by simp)
 rw [if_pos c18] at H
 have c18b0:=eq_true c18
 have c18b1:decide (0≤12)=true:=decide_eq_true c18
 clear c18
 by_cases c19:12≤(a3.size:Int)
 case neg =>
  rw [if_neg c19] at H
  exact absurd H (by simp)
 rw [if_pos c19] at H
 have c19b0:=eq_true c19
 have c19b1:decide (12≤(a3.size:Int))=true:=decide_eq_true c19
 clear c19
 by_cases c20:12≤(ji10)
 case neg =>
  rw [if_neg c20] at H
  exact absurd H (by simp)
 rw [if_pos c20] at H
 have c20b0:=eq_true c20
 have c20b1:decide (12≤(ji10))=true:=decide_eq_true c20
 clear c20
 have c21b0:=eq_true (of_decide_eq_true (by first|(with_reducible assumption)|assumption):(ji10)≤(a3.size:Int))
 replace H:=Option.bind_eq_some_iff.mp H
 obtain ⟨t508,A220,H⟩:=H
 replace H:(some (t508,0))=some (r1,r2):=H
 have A22:=zK A220
 clear A220
 simp only [Option.some.injEq,Prod.mk.injEq] at H
 obtain ⟨rfl,rfl⟩:=H
 go_enter Tryd.func52,Tryd.ntmps52
 try go_wp2_with (first|((with_reducible refine gate_dst (N:=4) rfl ?_); refine box_event ?hg (N:=4) ?hd (cs:=#[.slice A0_0 l0_0.length c0_0,.string a0_1,.slice A0_2 l0_2.length c0_2]) (t:=52) ?hr ?_; (case hd=>rfl); (case hg=>rfl); (case hr=>first|(go_simp; done)|(go_simp; rfl)); intro gb504 hg w23 hbox hb; have n0_:=zK (below_step (by repeat (first|(with_reducible first|exact HB.out|apply zA|apply zN|apply zD)|exact HB.out)) hb); have n1_:=zK (hbox); have n2_:=zK ((by rw [hg]; exact (below_size (by repeat (first|(with_reducible first|exact HB.out|apply zA|apply zN|apply zD)|exact HB.out))):w.heap.size≤gb504)); have n3_:=zK ((by rw [hg]; exact (below_size (by repeat (first|(with_reducible first|exact HB.out|apply zA|apply zN|apply zD)|exact HB.out))):w.heap.size≤gb504)); clear HB; have HB:=n0_; have BK504:=n1_; have GW504:=n2_; have GE504:=n3_; clear n0_ n1_ n2_ n3_; clear hb hbox hg))
 have n0_:=zK (blk_drew BK504.out)
 have n1_:=zK (zD HB.out)
 clear BK504
 clear HB
 have BK504:=n0_
 have HB:=n1_
 clear n0_ n1_
 refine start_ (n:=15) (S:=fun w'=>w'.cell? ⟨gb504,0,none⟩=some (.slice A0_0 l0_0.length c0_0)∧w'.cell? ⟨gb504,1,none⟩=some (.string a0_1)∧w'.cell? ⟨gb504,2,none⟩=some (.slice A0_2 l0_2.length c0_2)) (ds:=[]) #[G,G,G,G,G,G,G,G,G,G,G,G,G,G,G] (by kernel_rfl) rfl rfl ⟨(blk_cell BK504.out 0).trans rfl,(blk_cell BK504.out 1).trans rfl,(blk_cell BK504.out 2).trans rfl⟩ (fun hHeld=>?_); refine with_tabW legateref07_World_Open.tab6 legateref07_World_Open.bits6 (fun HT_ HW_=>?_)
 generalize w23.drew=w24 at BK504 HB hHeld ⊢
 refine zq 0 (some 20) ?_ #[O,G,G,G,G,G,G,G,G,G,G,G,G,G,G] rfl rfl (any_of HT_.out (by kernel_rfl)) (fun _ _ _ h=>h) (Or.inl ⟨by rfl,?_⟩) ?_ ?_ ?_
 rotate_left;(intro w';go_simp;with_reducible rfl);rotate_left;(simp only [Act.put,zp];rfl)
 refine zq 2 (some 22) ?_ #[O,G,O,G,G,G,G,G,G,G,G,G,G,G,G] rfl rfl (any_of HT_.out (by kernel_rfl)) (fun _ _ _ h=>h) (Or.inl ⟨by rfl,?_⟩) ?_ ?_ ?_
 rotate_left;(intro w';go_simp;with_reducible rfl);rotate_left;(simp only [Act.put,zp];rfl)
 refine zq 4 (some 24) ?_ #[O,G,O,G,O,G,G,G,G,G,G,G,G,G,G] rfl rfl (any_of HT_.out (by kernel_rfl)) (fun _ _ _ h=>h) (Or.inl ⟨by rfl,?_⟩) ?_ ?_ ?_
 rotate_left;(intro w';go_simp;with_reducible rfl);rotate_left;(simp only [Act.put,zp];rfl)
 refine zq 5 (some 25) ?_ #[O,G,O,G,O,O,G,G,G,G,G,G,G,G,G] rfl rfl (any_of HT_.out (by kernel_rfl)) (fun _ _ _ h=>h) (Or.inl ⟨by rfl,?_⟩) ?_ ?_ ?_
 rotate_left;(intro w';go_simp;with_reducible rfl);rotate_left;(simp only [Act.put,zp];rfl)
 refine zq 7 (some 27) ?_ #[O,G,O,G,O,O,G,O,G,G,G,G,G,G,G] rfl rfl (any_of HT_.out (by kernel_rfl)) (fun _ _ _ h=>h) (Or.inl ⟨by rfl,?_⟩) ?_ ?_ ?_
 rotate_left;(intro w';go_simp;with_reducible rfl);rotate_left;(simp only [Act.put,zp];rfl)
 refine zq 8 (some 28) ?_ #[O,G,O,G,O,O,G,O,O,G,G,G,G,G,G] rfl rfl (any_of HT_.out (by kernel_rfl)) (fun _ _ _ h=>h) (Or.inl ⟨by rfl,?_⟩) ?_ ?_ ?_
 rotate_left;(intro w';go_simp;with_reducible rfl);rotate_left;(simp only [Act.put,zp];rfl)
 refine zq 9 (some 29) ?_ #[O,G,O,G,O,O,G,O,O,O,G,G,G,G,G] rfl rfl (any_of HT_.out (by kernel_rfl)) (fun _ _ _ h=>h) (Or.inl ⟨by rfl,?_⟩) ?_ ?_ ?_
 rotate_left;(intro w';go_simp;with_reducible rfl);rotate_left;(simp only [Act.put,zp];rfl)
 refine zq 11 (some 31) ?_ #[O,G,O,G,O,O,G,O,O,O,G,O,G,G,G] rfl rfl (any_of HT_.out (by kernel_rfl)) (fun _ _ _ h=>h) (Or.inl ⟨by rfl,?_⟩) ?_ ?_ ?_
 rotate_left;(intro w';go_simp;with_reducible rfl);rotate_left;(simp only [Act.put,zp];rfl)
 refine zq 12 (some 32) ?_ #[O,G,O,G,O,O,G,O,O,O,G,O,O,G,G] rfl rfl (any_of HT_.out (by kernel_rfl)) (fun _ _ _ h=>h) (Or.inl ⟨by rfl,?_⟩) ?_ ?_ ?_
 rotate_left;(intro w';go_simp;with_reducible rfl);rotate_left;(simp only [Act.put,zp];rfl)
 refine zq 13 (some 33) ?_ #[O,G,O,G,O,O,G,O,O,O,G,O,O,O,G] rfl rfl (any_of HT_.out (by kernel_rfl)) (fun _ _ _ h=>h) (Or.inl ⟨by rfl,?_⟩) ?_ ?_ ?_
 rotate_left;(intro w';go_simp;with_reducible rfl);rotate_left;(simp only [Act.put,zp];rfl)
 refine take_ (i:=1) (N:=some 21) (v:=?_) (a':=?_) #[O,O,O,G,O,O,G,O,O,O,G,O,O,O,G] rfl rfl (take_ofW HT_.out HW_.out (by kernel_rfl)) (fun _ _ _ h=>h) (Or.inl ⟨by rfl,?_⟩) hHeld ?_ ?_
 rotate_left
 ·rintro w' ⟨s0,s1,s2⟩
  go_simp
  with_reducible rfl
 rotate_left
 ·simp only [Act.put,zp]
  rfl
 refine take_ (i:=3) (N:=some 23) (v:=?_) (a':=?_) #[O,O,O,O,O,O,G,O,O,O,G,O,O,O,G] rfl rfl (take_ofW HT_.out HW_.out (by kernel_rfl)) (fun _ _ _ h=>h) (Or.inl ⟨by rfl,?_⟩) hHeld ?_ ?_
 rotate_left
 ·rintro w' ⟨s0,s1,s2⟩
  go_simp
  with_reducible rfl
 rotate_left
 ·simp only [Act.put,zp]
  rfl
 refine one_ (i:=6) (N:=some 26) #[O,O,O,O,O,O,O,O,O,O,G,O,O,O,G] rfl rfl (one_of HT_.out (by kernel_rfl)) (by decide) (fun K hK=>?_)
 refine goes_ Tryd.func45 (by kernel_rfl) rfl #[.agg #[.slice A0_0 l0_0.length c0_0,.string a0_1],.string a1,.int .i64 a2] (by rfl) rfl rfl (by (try simp only [zm]); first|done|rfl|(simp only [zl]; rfl)) ?_
 with_reducible refine (legateref06_Sum.calls k _ _ l0_0 a0_1 a1 a2 t505 _ ?side1 ?side2 A9.out).mono ?_
 (case side1=>repeat (first|exact (Kd.C_below HR0_0.out HB.out)|(with_reducible refine Kd.C_alloc ?_ _)|(with_reducible refine Kd.C_drewN ?_ _)|(with_reducible refine Kd.C_drew ?_)))
 (case side2=>exact HC0_0.out)
 rintro e w25 ⟨rfl,hb⟩
 refine ⟨_,rfl,?_⟩
 have n0_:=zK (blk_below (g:=gb504) (o:=.cells #[.slice A0_0 l0_0.length c0_0,.string a0_1,.slice A0_2 l0_2.length c0_2] 52 (0,0)) (by (with_reducible repeat (first|refine blk_drewN ?_ _|refine blk_drew ?_|refine blk_alloc ?_ _)); exact BK504.out) hb)
 have n1_:=zK (below_step (by repeat (first|(with_reducible first|exact HB.out|apply zA|apply zN|apply zD|refine below_set ?_ GE504.out)|exact HB.out)) hb)
 clear BK504
 clear HB
 have BK504:=n0_
 have HB:=n1_
 clear n0_ n1_
 (try clear hb)
 (try clear hb2)
 (try clear hk)
 (try clear hi)
 refine hK.out _ _ ⟨(blk_cell BK504.out 0).trans rfl,(blk_cell BK504.out 1).trans rfl,(blk_cell BK504.out 2).trans rfl⟩ (fun hHeld=>?_)
 clear hK K
 refine norm_ (a':=?_) ?_ ?_
 rotate_left
 ·show Act.put _ (some 26) _=_
  simp only [Act.put,zp]
  rfl
 refine one_ (i:=10) (N:=some 30) #[O,O,O,O,O,O,O,O,O,O,O,O,O,O,G] rfl rfl (one_of HT_.out (by kernel_rfl)) (by decide) (fun K hK=>?_)
 refine goes_ Tryd.func36 (by kernel_rfl) rfl #[.agg #[.slice A0_0 l0_0.length c0_0,.string a0_1],.string t505,.string (a3.extract 0 ((ji10):Int).toNat)] (by rfl) rfl rfl (by (try simp only [zm]); first|done|(simp only [hji10]; rfl)|rfl|(simp only [zl]; rfl)) ?_
 with_reducible refine (legateref03_Tables_Mac.calls k _ _ l0_0 a0_1 t505 (a3.extract 0 ((ji10):Int).toNat) t506 _ ?side1 ?side2 A13.out).mono ?_
 (case side1=>repeat (first|exact (Kd.C_below HR0_0.out HB.out)|(with_reducible refine Kd.C_alloc ?_ _)|(with_reducible refine Kd.C_drewN ?_ _)|(with_reducible refine Kd.C_drew ?_)))
 (case side2=>exact HC0_0.out)
 rintro e w26 ⟨rfl,hb⟩
 refine ⟨_,rfl,?_⟩
 have n0_:=zK (blk_below (g:=gb504) (o:=.cells #[.slice A0_0 l0_0.length c0_0,.string a0_1,.slice A0_2 l0_2.length c0_2] 52 (0,0)) (by (with_reducible repeat (first|refine blk_drewN ?_ _|refine blk_drew ?_|refine blk_alloc ?_ _)); exact BK504.out) hb)
 have n1_:=zK (below_step (by repeat (first|(with_reducible first|exact HB.out|apply zA|apply zN|apply zD|refine below_set ?_ GE504.out)|exact HB.out)) hb)
 clear BK504
 clear HB
 have BK504:=n0_
 have HB:=n1_
 clear n0_ n1_
 (try clear hb)
 (try clear hb2)
 (try clear hk)
 (try clear hi)
 refine hK.out _ _ ⟨(blk_cell BK504.out 0).trans rfl,(blk_cell BK504.out 1).trans rfl,(blk_cell BK504.out 2).trans rfl⟩ (fun hHeld=>?_)
 clear hK K
 refine norm_ (a':=?_) ?_ ?_
 rotate_left
 ·show Act.put _ (some 30) _=_
  simp only [Act.put,zp]
  rfl
 refine zq 14 (some 34) ?_ #[O,O,O,O,O,O,O,O,O,O,O,O,O,O,O] rfl rfl (any_of HT_.out (by kernel_rfl)) (fun _ _ _ h=>h) (Or.inl ⟨by rfl,?_⟩) ?_ ?_ ?_
 rotate_left;(intro w';go_simp;with_reducible rfl);rotate_left;(simp only [Act.put,zp];rfl)
 refine done_ (done_of HT_.out (by kernel_rfl)) ?_
 try go_wp2
 have n0_:=zK (blk_drew BK504.out)
 have n1_:=zK (zD HB.out)
 clear BK504
 clear HB
 have BK504:=n0_
 have HB:=n1_
 clear n0_ n1_
 refine start_ (n:=15) (S:=fun w'=>w'.cell? ⟨gb504,0,none⟩=some (.slice A0_0 l0_0.length c0_0)∧w'.cell? ⟨gb504,1,none⟩=some (.string a0_1)∧w'.cell? ⟨gb504,2,none⟩=some (.slice A0_2 l0_2.length c0_2)) (ds:=[]) #[G,G,G,G,G,G,G,G,G,G,G,G,G,G,G] (by kernel_rfl) rfl rfl ⟨(blk_cell BK504.out 0).trans rfl,(blk_cell BK504.out 1).trans rfl,(blk_cell BK504.out 2).trans rfl⟩ (fun hHeld=>?_); refine with_tabW legateref07_World_Open.tab8 legateref07_World_Open.bits8 (fun HT_ HW_=>?_)
 generalize w26.drew=w27 at BK504 HB hHeld ⊢
 refine zq 0 (some 35) ?_ #[O,G,G,G,G,G,G,G,G,G,G,G,G,G,G] rfl rfl (any_of HT_.out (by kernel_rfl)) (fun _ _ _ h=>h) (Or.inl ⟨by rfl,?_⟩) ?_ ?_ ?_
 rotate_left;(intro w';go_simp;with_reducible rfl);rotate_left;(simp only [Act.put,zp];rfl)
 refine zq 2 (some 37) ?_ #[O,G,O,G,G,G,G,G,G,G,G,G,G,G,G] rfl rfl (any_of HT_.out (by kernel_rfl)) (fun _ _ _ h=>h) (Or.inl ⟨by rfl,?_⟩) ?_ ?_ ?_
 rotate_left;(intro w';go_simp;with_reducible rfl);rotate_left;(simp only [Act.put,zp];rfl)
 refine zq 4 (some 39) ?_ #[O,G,O,G,O,G,G,G,G,G,G,G,G,G,G] rfl rfl (any_of HT_.out (by kernel_rfl)) (fun _ _ _ h=>h) (Or.inl ⟨by rfl,?_⟩) ?_ ?_ ?_
 rotate_left;(intro w';go_simp;with_reducible rfl);rotate_left;(simp only [Act.put,zp];rfl)
 refine zq 5 (some 40) ?_ #[O,G,O,G,O,O,G,G,G,G,G,G,G,G,G] rfl rfl (any_of HT_.out (by kernel_rfl)) (fun _ _ _ h=>h) (Or.inl ⟨by rfl,?_⟩) ?_ ?_ ?_
 rotate_left;(intro w';go_simp;with_reducible rfl);rotate_left;(simp only [Act.put,zp];rfl)
 refine zq 7 (some 42) ?_ #[O,G,O,G,O,O,G,O,G,G,G,G,G,G,G] rfl rfl (any_of HT_.out (by kernel_rfl)) (fun _ _ _ h=>h) (Or.inl ⟨by rfl,?_⟩) ?_ ?_ ?_
 rotate_left;(intro w';go_simp;with_reducible rfl);rotate_left;(simp only [Act.put,zp];rfl)
 refine zq 8 (some 43) ?_ #[O,G,O,G,O,O,G,O,O,G,G,G,G,G,G] rfl rfl (any_of HT_.out (by kernel_rfl)) (fun _ _ _ h=>h) (Or.inl ⟨by rfl,?_⟩) ?_ ?_ ?_
 rotate_left;(intro w';go_simp;with_reducible rfl);rotate_left;(simp only [Act.put,zp];rfl)
 refine zq 9 (some 44) ?_ #[O,G,O,G,O,O,G,O,O,O,G,G,G,G,G] rfl rfl (any_of HT_.out (by kernel_rfl)) (fun _ _ _ h=>h) (Or.inl ⟨by rfl,?_⟩) ?_ ?_ ?_
 rotate_left;(intro w';go_simp;with_reducible rfl);rotate_left;(simp only [Act.put,zp];rfl)
 refine zq 10 (some 45) ?_ #[O,G,O,G,O,O,G,O,O,O,O,G,G,G,G] rfl rfl (any_of HT_.out (by kernel_rfl)) (fun _ _ _ h=>h) (Or.inl ⟨by rfl,?_⟩) ?_ ?_ ?_
 rotate_left;(intro w';go_simp;with_reducible rfl);rotate_left;(simp only [Act.put,zp];rfl)
 refine zq 11 (some 46) ?_ #[O,G,O,G,O,O,G,O,O,O,O,O,G,G,G] rfl rfl (any_of HT_.out (by kernel_rfl)) (fun _ _ _ h=>h) (Or.inl ⟨by rfl,?_⟩) ?_ ?_ ?_
 rotate_left;(intro w';go_simp;with_reducible rfl);rotate_left;(simp only [Act.put,zp];rfl)
 refine take_ (i:=1) (N:=some 36) (v:=?_) (a':=?_) #[O,O,O,G,O,O,G,O,O,O,O,O,G,G,G] rfl rfl (take_ofW HT_.out HW_.out (by kernel_rfl)) (fun _ _ _ h=>h) (Or.inl ⟨by rfl,?_⟩) hHeld ?_ ?_
 rotate_left
 ·rintro w' ⟨s0,s1,s2⟩
  go_simp
  with_reducible rfl
 rotate_left
 ·simp only [Act.put,zp]
  rfl
 refine take_ (i:=3) (N:=some 38) (v:=?_) (a':=?_) #[O,O,O,O,O,O,G,O,O,O,O,O,G,G,G] rfl rfl (take_ofW HT_.out HW_.out (by kernel_rfl)) (fun _ _ _ h=>h) (Or.inl ⟨by rfl,?_⟩) hHeld ?_ ?_
 rotate_left
 ·rintro w' ⟨s0,s1,s2⟩
  go_simp
  with_reducible rfl
 rotate_left
 ·simp only [Act.put,zp]
  rfl
 refine one_ (i:=6) (N:=some 41) #[O,O,O,O,O,O,O,O,O,O,O,O,G,G,G] rfl rfl (one_of HT_.out (by kernel_rfl)) (by decide) (fun K hK=>?_)
 refine goes_ Tryd.func44 (by kernel_rfl) rfl #[.agg #[.slice A0_0 l0_0.length c0_0,.string a0_1],.string a1,.int .i64 a2] (by rfl) rfl rfl (by (try simp only [zm]); first|done|rfl|(simp only [zl]; rfl)) ?_
 with_reducible refine (legateref06_Cipher.calls k _ _ l0_0 a0_1 a1 a2 t507 _ ?side1 ?side2 A17.out).mono ?_
 (case side1=>repeat (first|exact (Kd.C_below HR0_0.out HB.out)|(with_reducible refine Kd.C_alloc ?_ _)|(with_reducible refine Kd.C_drewN ?_ _)|(with_reducible refine Kd.C_drew ?_)))
 (case side2=>exact HC0_0.out)
 rintro e w28 ⟨rfl,hb⟩
 refine ⟨_,rfl,?_⟩
 have n0_:=zK (blk_below (g:=gb504) (o:=.cells #[.slice A0_0 l0_0.length c0_0,.string a0_1,.slice A0_2 l0_2.length c0_2] 52 (0,0)) (by (with_reducible repeat (first|refine blk_drewN ?_ _|refine blk_drew ?_|refine blk_alloc ?_ _)); exact BK504.out) hb)
 have n1_:=zK (below_step (by repeat (first|(with_reducible first|exact HB.out|apply zA|apply zN|apply zD|refine below_set ?_ GE504.out)|exact HB.out)) hb)
 clear BK504
 clear HB
 have BK504:=n0_
 have HB:=n1_
 clear n0_ n1_
 (try clear hb)
 (try clear hb2)
 (try clear hk)
 (try clear hi)
 refine hK.out _ _ ⟨(blk_cell BK504.out 0).trans rfl,(blk_cell BK504.out 1).trans rfl,(blk_cell BK504.out 2).trans rfl⟩ (fun hHeld=>?_)
 clear hK K
 refine norm_ (a':=?_) ?_ ?_
 rotate_left
 ·show Act.put _ (some 41) _=_
  simp only [Act.put,zp]
  rfl
 refine one_ (i:=12) (N:=some 47) #[O,O,O,O,O,O,O,O,O,O,O,O,O,G,G] rfl rfl (one_of HT_.out (by kernel_rfl)) (by decide) (fun K hK=>?_)
 refine goes_ Tryd.func74 (by kernel_rfl) rfl #[.slice A0_2 l0_2.length c0_2,.string t507,.string (a3.extract 0 12),.string (a3.extract 12 ((ji10):Int).toNat)] (by rfl) rfl rfl (by (try simp only [zm]); first|done|(simp only [hji10]; rfl)|rfl|(simp only [zl]; rfl)) ?_
 with_reducible refine (legateref05_Cipher.calls k _ _ l0_2 t507 (a3.extract 0 12) (a3.extract 12 ((ji10):Int).toNat) t508 _ ?side1 ?side2 A22.out).mono ?_
 (case side1=>repeat (first|exact (Kd.C_below HR0_2.out HB.out)|(with_reducible refine Kd.C_alloc ?_ _)|(with_reducible refine Kd.C_drewN ?_ _)|(with_reducible refine Kd.C_drew ?_)))
 (case side2=>exact HC0_2.out)
 rintro e w29 ⟨rfl,hb⟩
 refine ⟨_,rfl,?_⟩
 have n0_:=zK (blk_below (g:=gb504) (o:=.cells #[.slice A0_0 l0_0.length c0_0,.string a0_1,.slice A0_2 l0_2.length c0_2] 52 (0,0)) (by (with_reducible repeat (first|refine blk_drewN ?_ _|refine blk_drew ?_|refine blk_alloc ?_ _)); exact BK504.out) hb)
 have n1_:=zK (below_step (by repeat (first|(with_reducible first|exact HB.out|apply zA|apply zN|apply zD|refine below_set ?_ GE504.out)|exact HB.out)) hb)
 clear BK504
 clear HB
 have BK504:=n0_
 have HB:=n1_
 clear n0_ n1_
 (try clear hb)
 (try clear hb2)
 (try clear hk)
 (try clear hi)
 refine hK.out _ _ ⟨(blk_cell BK504.out 0).trans rfl,(blk_cell BK504.out 1).trans rfl,(blk_cell BK504.out 2).trans rfl⟩ (fun hHeld=>?_)
 clear hK K
 refine norm_ (a':=?_) ?_ ?_
 rotate_left
 ·show Act.put _ (some 47) _=_
  simp only [Act.put,zp]
  rfl
 refine zq 13 (some 8) ?_ #[O,O,O,O,O,O,O,O,O,O,O,O,O,O,G] rfl rfl (any_of HT_.out (by kernel_rfl)) (fun _ _ _ h=>h) (Or.inl ⟨by rfl,?_⟩) ?_ ?_ ?_
 rotate_left;(intro w';go_simp;with_reducible rfl);rotate_left;(simp only [Act.put,zp];rfl)
 refine zq 14 (some 9) ?_ #[O,O,O,O,O,O,O,O,O,O,O,O,O,O,O] rfl rfl (any_of HT_.out (by kernel_rfl)) (fun _ _ _ h=>h) (Or.inl ⟨by rfl,?_⟩) ?_ ?_ ?_
 rotate_left;(intro w';go_simp;with_reducible rfl);rotate_left;(simp only [Act.put,zp];rfl)
 refine done_ (done_of HT_.out (by kernel_rfl)) ?_
 try go_wp2
 go_ret2
 exact ⟨by first|rfl|(simp [errW_none,errW_some]<;>rfl)|(simp only [← hji10]; first|rfl|(simp [errW_none,errW_some]<;>rfl))|(simp [*,errW_none,errW_some]<;>rfl),by repeat (first|(with_reducible first|exact HB.out|apply zA|apply zN|apply zD|refine below_set ?_ GE504.out)|exact HB.out)⟩
end Go.Proofs.YtkgijkfcmbpgpaaDoor.PAll
end
