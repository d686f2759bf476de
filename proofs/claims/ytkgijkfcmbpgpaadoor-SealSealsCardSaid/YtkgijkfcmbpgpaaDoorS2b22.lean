import Derived.Test.YtkgijkfcmbpgpaaDoorS2b0
import Derived.Test.YtkgijkfcmbpgpaaDoorS2b1
import Derived.Test.YtkgijkfcmbpgpaaDoorS2b16
import Derived.Test.YtkgijkfcmbpgpaaDoorS2b17
import Derived.Test.YtkgijkfcmbpgpaaDoorS2b2
import Derived.Test.YtkgijkfcmbpgpaaDoorS2b21
section
namespace Go.Proofs.YtkgijkfcmbpgpaaDoor.PAll
open Go.RowKit Go.Proofs.YtkgijkfcmbpgpaaDoorW.PrintWords Go.Proofs.YtkgijkfcmbpgpaaDoorW.PrintLast Go.Proofs.YtkgijkfcmbpgpaaDoorW.PrintMore
attribute [local go_sem] max2_int min2_int max_two min_two max_three min_three max_four min_four
set_option linter.unusedVariables false
set_option linter.unusedSimpArgs false
def legateref07_World_Seal.j0:Nat→ByteArray→Int→ByteArray→ByteArray→Bool→List Int→ByteArray→List Int→Option (ByteArray×Int)
  | 0,_,_,_,_,_,_,_,_=>none
  | k+1,x1,x2,x3,x4,x20,x500000,x500001,x500002=>if x20=true then (some ((⟨#[]⟩:ByteArray),1)) else ((legateref06_Cipher.f k x500000 x500001 x1 x2).bind fun t500=>((legateref05_Cipher.f k x500002 t500 x3 x4).bind fun t501=>(if x3.size+t501.size≤9223372036854775807 then ((legateref06_Sum.f k x500000 x500001 x1 x2).bind fun t502=>((legateref03_Tables_Mac.f k x500000 x500001 t502 (x3++t501)).bind fun t503=>(if (x3++t501).size+t503.size≤9223372036854775807 then (some ((x3++t501)++t503,0)) else (none)))) else (none))))
def legateref07_World_Seal.f (k:Nat) (l0_0:List Int) (a0_1:ByteArray) (l0_2:List Int) (a1:ByteArray) (a2:Int) (a3:ByteArray) (a4:ByteArray):Option (ByteArray×Int):=if (a3.size:Int)=12 then (legateref07_World_Seal.j0 k a1 a2 a3 a4 (decide ((a4.size:Int) > 65536)) l0_0 a0_1 l0_2) else (legateref07_World_Seal.j0 k a1 a2 a3 a4 true l0_0 a0_1 l0_2)
def legateref07_World_Seal.T3:Bool×List (List Nat×List Nat):=(true,[([],[]),([],[]),([1],[1]),([],[]),([3],[3]),([],[]),([],[]),([4,5,6],[4,5,6]),([],[]),([],[]),([2,7,8,9,7],[2,7,8,9]),([0,10],[0,10]),([11,10,0,1,2,3,4,5,6,7,8,9,10,11],[11])])
def legateref07_World_Seal.B3:List Nat:=[0,0,2,0,8,0,0,120,0,0,1022,2047,4095]
theorem legateref07_World_Seal.tab3:rtab .any (opsOf Tryd.f51 3)=legateref07_World_Seal.T3:=by kernel_rfl
theorem legateref07_World_Seal.bits3:waitsOk legateref07_World_Seal.T3.2 legateref07_World_Seal.B3=true:=by kernel_rfl
def legateref07_World_Seal.T4:Bool×List (List Nat×List Nat):=(true,[([],[]),([],[]),([1],[1]),([],[]),([3],[3]),([],[]),([],[]),([4,5,6],[4,5,6]),([],[]),([2,7,8,7],[2,7,8]),([0,9],[0,9]),([10,9,0,1,2,3,4,5,6,7,8,9,10],[10]),([11,0,1,2,3,4,5,6,7,8,9,10,11],[])])
def legateref07_World_Seal.B4:List Nat:=[0,0,2,0,8,0,0,120,0,510,1023,2047,4095]
theorem legateref07_World_Seal.tab4:rtab .any (opsOf Tryd.f51 4)=legateref07_World_Seal.T4:=by kernel_rfl
theorem legateref07_World_Seal.bits4:waitsOk legateref07_World_Seal.T4.2 legateref07_World_Seal.B4=true:=by kernel_rfl
set_option maxHeartbeats 8000000 in
set_option maxRecDepth 100000 in
theorem legateref07_World_Seal.calls (k:Nat) (A0_0:Option Addr) (c0_0:Nat) (l0_0:List Int) (a0_1:ByteArray) (A0_2:Option Addr) (c0_2:Nat) (l0_2:List Int) (a1:ByteArray) (a2:Int) (a3:ByteArray) (a4:ByteArray) (r1:ByteArray) (r2:Int) (w:World) (hr0_0:Kd.C (Kd.int .i64) w A0_0 l0_0.length l0_0) (hc0_0:l0_0.length≤c0_0) (hr0_2:Kd.C (Kd.int .u8) w A0_2 l0_2.length l0_2) (hc0_2:l0_2.length≤c0_2) (h:legateref07_World_Seal.f k l0_0 a0_1 l0_2 a1 a2 a3 a4=some (r1,r2)) :
 Calls Tryd.prog 51 #[.agg #[.slice A0_0 l0_0.length c0_0,.string a0_1,.slice A0_2 l0_2.length c0_2],.string a1,.int .i64 a2,.string a3,.string a4] w fun e w'=>e=.returned (.tuple #[.string r1,.int .i64 r2])∧Below w.heap.size w w':=by
 have hu52:=Tryd.underlying52
 have hu42:=Tryd.underlying42
 have HR0_0:=zK hr0_0
 have HC0_0:=zK hc0_0
 clear hr0_0 hc0_0
 have HR0_2:=zK hr0_2
 have HC0_2:=zK hc0_2
 clear hr0_2 hc0_2
 have HB:=zK (Below.refl w.heap.size w)
 have H:(if (a3.size:Int)=12 then (legateref07_World_Seal.j0 k a1 a2 a3 a4 (decide ((a4.size:Int) > 65536)) l0_0 a0_1 l0_2) else (legateref07_World_Seal.j0 k a1 a2 a3 a4 true l0_0 a0_1 l0_2))=some (r1,r2):=h
 clear h
 have HC6:=zK H
 clear H
 go_enter Tryd.func51,Tryd.ntmps51
 go_upto_region 1 with (first|((with_reducible refine gate_dst (N:=5) rfl ?_); (try (refine gate_guard (by rfl) ?_; dsimp only)); refine box_event ?hg (N:=5) ?hd (cs:=#[.slice A0_0 l0_0.length c0_0,.string a0_1,.slice A0_2 l0_2.length c0_2]) (t:=52) ?hr ?_; (case hd=>rfl); (case hg=>rfl); (case hr=>first|(go_simp; done)|(go_simp; rfl)); intro gb499 hg w7 hbox hb; have n0_:=zK (below_step (by repeat (first|(with_reducible first|exact HB.out|apply zA|apply zN|apply zD)|exact HB.out)) hb); have n1_:=zK (hbox); have n2_:=zK ((by rw [hg]; exact (below_size (by repeat (first|(with_reducible first|exact HB.out|apply zA|apply zN|apply zD)|exact HB.out))):w.heap.size≤gb499)); have n3_:=zK ((by rw [hg]; exact (below_size (by repeat (first|(with_reducible first|exact HB.out|apply zA|apply zN|apply zD)|exact HB.out))):w.heap.size≤gb499)); clear HB; have HB:=n0_; have BK499:=n1_; have GW499:=n2_; have GE499:=n3_; clear n0_ n1_ n2_ n3_; clear hb hbox hg))
 (try simp only [Act.put,List.setIfInBounds_toArray,List.set_cons_zero,List.set_cons_succ])
 go_cut [20] (fun v20 wc=>∃ (kq:Nat) (x20_5:Bool),v20=.bool x20_5∧Aside0 (legateref07_World_Seal.j0 kq a1 a2 a3 a4 x20_5 l0_0 a0_1 l0_2=some (r1,r2))∧Aside0 (kq≤k)∧Aside0 (wc.heap[gb499]? = some (.cells #[(.slice A0_0 l0_0.length c0_0),.string a0_1,(.slice A0_2 l0_2.length c0_2)] 52 (0,0)))∧Aside0 (Below w.heap.size w wc))
 case first =>
  have H:=HC6.out
  clear HC6
  by_cases c8:(a3.size:Int)=12
  case neg =>
   rw [if_neg c8] at H
   have c8b0:((a3.size:Int) == 12)=false:=beq_eq_false_iff_ne.mpr c8
   have c8b1:((a3.size:Int) != 12)=true:=bne_iff_ne.mpr c8
   (first|rw [c8b0]|(simp only [i64_w,i32_w]; rw [c8b0])|skip)
   have H':=zK H
   clear H
   go_wp2
   go_meet
   case rel=>exact ⟨_,(true),(by first|rfl|(simp; done)|(simp [*]; done)),H',⟨by first|omega|exact Nat.le_refl _⟩,⟨by (with_reducible repeat (first|refine blk_drewN ?_ _|refine blk_drew ?_|refine blk_alloc ?_ _)); exact BK499.out⟩,⟨by repeat (first|(with_reducible first|exact HB.out|apply zA|apply zN|apply zD|refine below_set ?_ GE499.out)|exact HB.out)⟩⟩
  rw [if_pos c8] at H
  have c8b0:((a3.size:Int) == 12)=true:=beq_iff_eq.mpr c8
  have c8b1:((a3.size:Int) != 12)=false:=bne_eq_false_iff_eq.mpr c8
  clear c8
  (first|rw [c8b0]|(simp only [i64_w,i32_w]; rw [c8b0])|skip)
  have H':=zK H
  clear H
  go_wp2
  go_meet
  case rel=>exact ⟨_,(decide ((a4.size:Int) > 65536)),(by first|rfl|(simp; done)|(simp [*]; done)),H',⟨by first|omega|exact Nat.le_refl _⟩,⟨by (with_reducible repeat (first|refine blk_drewN ?_ _|refine blk_drew ?_|refine blk_alloc ?_ _)); exact BK499.out⟩,⟨by repeat (first|(with_reducible first|exact HB.out|apply zA|apply zN|apply zD|refine below_set ?_ GE499.out)|exact HB.out)⟩⟩
 case rest =>
  clear HC6
  try clear p2
  try clear c5
  try clear c8
  try clear c8b0
  try clear c8b1
  obtain ⟨kq,x20_5,rfl,HA,HJ5,BK499,HB⟩:=hcut
  cases kq with
  | zero=>exact absurd HA.out (by simp [legateref07_World_Seal.j0])
  | succ kj5 =>
   have H:=HA.out
   clear HA
   simp only [legateref07_World_Seal.j0] at H
   by_cases c9:x20_5=true
   case pos =>
    subst c9
    have H1:(some ((⟨#[]⟩:ByteArray),1))=some (r1,r2):=by rw [if_pos rfl] at H; exact H
    clear H
    have H:=H1
    clear H1
    simp only [Option.some.injEq,Prod.mk.injEq] at H
    obtain ⟨rfl,rfl⟩:=H
    go_wp2
    go_ret2
    exact ⟨by first|rfl|(simp [errW_none,errW_some]<;>rfl)|(simp [*,errW_none,errW_some]<;>rfl),by repeat (first|(with_reducible first|exact HB.out|apply zA|apply zN|apply zD|refine below_set ?_ GE499.out)|exact HB.out)⟩
   replace c9:=Bool.eq_false_iff.mpr c9
   subst c9
   have H1:((legateref06_Cipher.f kj5 l0_0 a0_1 a1 a2).bind fun t500=>((legateref05_Cipher.f kj5 l0_2 t500 a3 a4).bind fun t501=>(if a3.size+t501.size≤9223372036854775807 then ((legateref06_Sum.f kj5 l0_0 a0_1 a1 a2).bind fun t502=>((legateref03_Tables_Mac.f kj5 l0_0 a0_1 t502 (a3++t501)).bind fun t503=>(if (a3++t501).size+t503.size≤9223372036854775807 then (some ((a3++t501)++t503,0)) else (none)))) else (none))))=some (r1,r2):=by rw [if_neg (show ¬ (false=true) by decide)] at H; exact H
   clear H
   have H:=H1
   clear H1
   replace H:=Option.bind_eq_some_iff.mp H
   obtain ⟨t500,A100,H⟩:=H
   replace H:((legateref05_Cipher.f kj5 l0_2 t500 a3 a4).bind fun t501=>(if a3.size+t501.size≤9223372036854775807 then ((legateref06_Sum.f kj5 l0_0 a0_1 a1 a2).bind fun t502=>((legateref03_Tables_Mac.f kj5 l0_0 a0_1 t502 (a3++t501)).bind fun t503=>(if (a3++t501).size+t503.size≤9223372036854775807 then (some ((a3++t501)++t503,0)) else (none)))) else (none)))=some (r1,r2):=H
   have A10:=zK A100
   clear A100
   replace H:=Option.bind_eq_some_iff.mp H
   obtain ⟨t501,A110,H⟩:=H
   replace H:(if a3.size+t501.size≤9223372036854775807 then ((legateref06_Sum.f kj5 l0_0 a0_1 a1 a2).bind fun t502=>((legateref03_Tables_Mac.f kj5 l0_0 a0_1 t502 (a3++t501)).bind fun t503=>(if (a3++t501).size+t503.size≤9223372036854775807 then (some ((a3++t501)++t503,0)) else (none)))) else (none))=some (r1,r2):=H
   have A11:=zK A110
   clear A110
   by_cases c12:a3.size+t501.size≤9223372036854775807
   case neg =>
    rw [if_neg c12] at H
    exact absurd H (by simp)
   rw [if_pos c12] at H
   have c12b0:=eq_true c12
   have c12b0z:=c12b0
   (try simp only [ByteArray.size_append,Int.natCast_add,show (⟨#[]⟩:ByteArray).size=0 from rfl] at c12b0z)
   have c12b1:decide (a3.size+t501.size≤9223372036854775807)=true:=decide_eq_true c12
   have c12b1z:=c12b1
   (try simp only [ByteArray.size_append,Int.natCast_add,show (⟨#[]⟩:ByteArray).size=0 from rfl] at c12b1z)
   try have c12b2:(9223372036854775807<a3.size+t501.size)=False:=eq_false (Nat.not_lt.2 c12)
   replace H:=Option.bind_eq_some_iff.mp H
   obtain ⟨t502,A130,H⟩:=H
   replace H:((legateref03_Tables_Mac.f kj5 l0_0 a0_1 t502 (a3++t501)).bind fun t503=>(if (a3++t501).size+t503.size≤9223372036854775807 then (some ((a3++t501)++t503,0)) else (none)))=some (r1,r2):=H
   have A13:=zK A130
   clear A130
   replace H:=Option.bind_eq_some_iff.mp H
   obtain ⟨t503,A140,H⟩:=H
   replace H:(if (a3++t501).size+t503.size≤9223372036854775807 then (some ((a3++t501)++t503,0)) else (none))=some (r1,r2):=H
   have A14:=zK A140
   clear A140
   by_cases c15:(a3++t501).size+t503.size≤9223372036854775807
   case neg =>
    rw [if_neg c15] at H
    exact absurd H (by simp)
   rw [if_pos c15] at H
   have c15b0:=eq_true c15
   have c15b0z:=c15b0
   (try simp only [ByteArray.size_append,Int.natCast_add] at c15b0z)
   have c15b1:decide ((a3++t501).size+t503.size≤9223372036854775807)=true:=decide_eq_true c15
   have c15b1z:=c15b1
   (try simp only [ByteArray.size_append,Int.natCast_add] at c15b1z)
   try have c15b2:(9223372036854775807<(a3++t501).size+t503.size)=False:=eq_false (Nat.not_lt.2 c15)
   have c15b2z:=c15b2
   (try simp only [ByteArray.size_append,Int.natCast_add] at c15b2z)
   simp only [Option.some.injEq,Prod.mk.injEq] at H
   obtain ⟨rfl,rfl⟩:=H
   try go_wp2
   have n0_:=zK (blk_drew BK499.out)
   have n1_:=zK (zD HB.out)
   clear BK499
   clear HB
   have BK499:=n0_
   have HB:=n1_
   clear n0_ n1_
   refine start_ (n:=13) (S:=fun w'=>w'.cell? ⟨gb499,0,none⟩=some (.slice A0_0 l0_0.length c0_0)∧w'.cell? ⟨gb499,1,none⟩=some (.string a0_1)∧w'.cell? ⟨gb499,2,none⟩=some (.slice A0_2 l0_2.length c0_2)) (ds:=[]) #[G,G,G,G,G,G,G,G,G,G,G,G,G] (by kernel_rfl) rfl rfl ⟨(blk_cell BK499.out 0).trans rfl,(blk_cell BK499.out 1).trans rfl,(blk_cell BK499.out 2).trans rfl⟩ (fun hHeld=>?_); refine with_tabW legateref07_World_Seal.tab3 legateref07_World_Seal.bits3 (fun HT_ HW_=>?_)
   generalize wc.drew=w16 at BK499 HB hHeld ⊢
   refine zq 0 (some 21) ?_ #[O,G,G,G,G,G,G,G,G,G,G,G,G] rfl rfl (any_of HT_.out (by kernel_rfl)) (fun _ _ _ h=>h) (Or.inl ⟨by rfl,?_⟩) ?_ ?_ ?_
   rotate_left;(intro w';go_simp;with_reducible rfl);rotate_left;(simp only [Act.put,zp];rfl)
   refine zq 1 (some 22) ?_ #[O,O,G,G,G,G,G,G,G,G,G,G,G] rfl rfl (any_of HT_.out (by kernel_rfl)) (fun _ _ _ h=>h) (Or.inl ⟨by rfl,?_⟩) ?_ ?_ ?_
   rotate_left;(intro w';go_simp;with_reducible rfl);rotate_left;(simp only [Act.put,zp];rfl)
   refine zq 3 (some 24) ?_ #[O,O,G,O,G,G,G,G,G,G,G,G,G] rfl rfl (any_of HT_.out (by kernel_rfl)) (fun _ _ _ h=>h) (Or.inl ⟨by rfl,?_⟩) ?_ ?_ ?_
   rotate_left;(intro w';go_simp;with_reducible rfl);rotate_left;(simp only [Act.put,zp];rfl)
   refine zq 5 (some 26) ?_ #[O,O,G,O,G,O,G,G,G,G,G,G,G] rfl rfl (any_of HT_.out (by kernel_rfl)) (fun _ _ _ h=>h) (Or.inl ⟨by rfl,?_⟩) ?_ ?_ ?_
   rotate_left;(intro w';go_simp;with_reducible rfl);rotate_left;(simp only [Act.put,zp];rfl)
   refine zq 6 (some 27) ?_ #[O,O,G,O,G,O,O,G,G,G,G,G,G] rfl rfl (any_of HT_.out (by kernel_rfl)) (fun _ _ _ h=>h) (Or.inl ⟨by rfl,?_⟩) ?_ ?_ ?_
   rotate_left;(intro w';go_simp;with_reducible rfl);rotate_left;(simp only [Act.put,zp];rfl)
   refine zq 8 (some 29) ?_ #[O,O,G,O,G,O,O,G,O,G,G,G,G] rfl rfl (any_of HT_.out (by kernel_rfl)) (fun _ _ _ h=>h) (Or.inl ⟨by rfl,?_⟩) ?_ ?_ ?_
   rotate_left;(intro w';go_simp;with_reducible rfl);rotate_left;(simp only [Act.put,zp];rfl)
   refine zq 9 (some 30) ?_ #[O,O,G,O,G,O,O,G,O,O,G,G,G] rfl rfl (any_of HT_.out (by kernel_rfl)) (fun _ _ _ h=>h) (Or.inl ⟨by rfl,?_⟩) ?_ ?_ ?_
   rotate_left;(intro w';go_simp;with_reducible rfl);rotate_left;(simp only [Act.put,zp];rfl)
   refine take_ (i:=2) (N:=some 23) (v:=?_) (a':=?_) #[O,O,O,O,G,O,O,G,O,O,G,G,G] rfl rfl (take_ofW HT_.out HW_.out (by kernel_rfl)) (fun _ _ _ h=>h) (Or.inl ⟨by rfl,?_⟩) hHeld ?_ ?_
   rotate_left
   ·rintro w' ⟨s0,s1,s2⟩
    go_simp
    with_reducible rfl
   rotate_left
   ·simp only [Act.put,zp]
    rfl
   refine take_ (i:=4) (N:=some 25) (v:=?_) (a':=?_) #[O,O,O,O,O,O,O,G,O,O,G,G,G] rfl rfl (take_ofW HT_.out HW_.out (by kernel_rfl)) (fun _ _ _ h=>h) (Or.inl ⟨by rfl,?_⟩) hHeld ?_ ?_
   rotate_left
   ·rintro w' ⟨s0,s1,s2⟩
    go_simp
    with_reducible rfl
   rotate_left
   ·simp only [Act.put,zp]
    rfl
   refine one_ (i:=7) (N:=some 28) #[O,O,O,O,O,O,O,O,O,O,G,G,G] rfl rfl (one_of HT_.out (by kernel_rfl)) (by decide) (fun K hK=>?_)
   refine goes_ Tryd.func44 (by kernel_rfl) rfl #[.agg #[.slice A0_0 l0_0.length c0_0,.string a0_1],.string a1,.int .i64 a2] (by rfl) rfl rfl (by (try simp only [zm]); first|done|rfl|(simp only [zl]; rfl)) ?_
   with_reducible refine (legateref06_Cipher.calls kj5 _ _ l0_0 a0_1 a1 a2 t500 _ ?side1 ?side2 A10.out).mono ?_
   (case side1=>repeat (first|exact (Kd.C_below HR0_0.out HB.out)|(with_reducible refine Kd.C_alloc ?_ _)|(with_reducible refine Kd.C_drewN ?_ _)|(with_reducible refine Kd.C_drew ?_)))
   (case side2=>exact HC0_0.out)
   rintro e w17 ⟨rfl,hb⟩
   refine ⟨_,rfl,?_⟩
   have n0_:=zK (blk_below (g:=gb499) (o:=.cells #[.slice A0_0 l0_0.length c0_0,.string a0_1,.slice A0_2 l0_2.length c0_2] 52 (0,0)) (by (with_reducible repeat (first|refine blk_drewN ?_ _|refine blk_drew ?_|refine blk_alloc ?_ _)); exact BK499.out) hb)
   have n1_:=zK (below_step (by repeat (first|(with_reducible first|exact HB.out|apply zA|apply zN|apply zD|refine below_set ?_ GE499.out)|exact HB.out)) hb)
   clear BK499
   clear HB
   have BK499:=n0_
   have HB:=n1_
   clear n0_ n1_
   (try clear hb)
   (try clear hb2)
   (try clear hk)
   (try clear hi)
   refine hK.out _ _ ⟨(blk_cell BK499.out 0).trans rfl,(blk_cell BK499.out 1).trans rfl,(blk_cell BK499.out 2).trans rfl⟩ (fun hHeld=>?_)
   clear hK K
   refine norm_ (a':=?_) ?_ ?_
   rotate_left
   ·show Act.put _ (some 28) _=_
    simp only [Act.put,zp]
    rfl
   refine one_ (i:=10) (N:=some 31) #[O,O,O,O,O,O,O,O,O,O,O,G,G] rfl rfl (one_of HT_.out (by kernel_rfl)) (by decide) (fun K hK=>?_)
   refine goes_ Tryd.func74 (by kernel_rfl) rfl #[.slice A0_2 l0_2.length c0_2,.string t500,.string a3,.string a4] (by rfl) rfl rfl (by (try simp only [zm]); first|done|rfl|(simp only [zl]; rfl)) ?_
   with_reducible refine (legateref05_Cipher.calls kj5 _ _ l0_2 t500 a3 a4 t501 _ ?side1 ?side2 A11.out).mono ?_
   (case side1=>repeat (first|exact (Kd.C_below HR0_2.out HB.out)|(with_reducible refine Kd.C_alloc ?_ _)|(with_reducible refine Kd.C_drewN ?_ _)|(with_reducible refine Kd.C_drew ?_)))
   (case side2=>exact HC0_2.out)
   rintro e w18 ⟨rfl,hb⟩
   refine ⟨_,rfl,?_⟩
   have n0_:=zK (blk_below (g:=gb499) (o:=.cells #[.slice A0_0 l0_0.length c0_0,.string a0_1,.slice A0_2 l0_2.length c0_2] 52 (0,0)) (by (with_reducible repeat (first|refine blk_drewN ?_ _|refine blk_drew ?_|refine blk_alloc ?_ _)); exact BK499.out) hb)
   have n1_:=zK (below_step (by repeat (first|(with_reducible first|exact HB.out|apply zA|apply zN|apply zD|refine below_set ?_ GE499.out)|exact HB.out)) hb)
   clear BK499
   clear HB
   have BK499:=n0_
   have HB:=n1_
   clear n0_ n1_
   (try clear hb)
   (try clear hb2)
   (try clear hk)
   (try clear hi)
   refine hK.out _ _ ⟨(blk_cell BK499.out 0).trans rfl,(blk_cell BK499.out 1).trans rfl,(blk_cell BK499.out 2).trans rfl⟩ (fun hHeld=>?_)
   clear hK K
   refine norm_ (a':=?_) ?_ ?_
   rotate_left
   ·show Act.put _ (some 31) _=_
    simp only [Act.put,zp]
    rfl
   refine zq 11 (some 32) ?_ #[O,O,O,O,O,O,O,O,O,O,O,O,G] rfl rfl (any_of HT_.out (by kernel_rfl)) (fun _ _ _ h=>h) (Or.inl ⟨by rfl,?_⟩) ?_ ?_ ?_
   rotate_left;(intro w';go_simp;with_reducible rfl);rotate_left;(simp only [Act.put,zp];rfl)
   refine zq 12 (some 12) ?_ #[O,O,O,O,O,O,O,O,O,O,O,O,O] rfl rfl (any_of HT_.out (by kernel_rfl)) (fun _ _ _ h=>h) (Or.inl ⟨by rfl,?_⟩) ?_ ?_ ?_
   rotate_left;(intro w';go_simp;with_reducible rfl);rotate_left;(simp only [Act.put,zp];rfl)
   refine done_ (done_of HT_.out (by kernel_rfl)) ?_
   try go_wp2
   have n0_:=zK (blk_drew BK499.out)
   have n1_:=zK (zD HB.out)
   clear BK499
   clear HB
   have BK499:=n0_
   have HB:=n1_
   clear n0_ n1_
   refine start_ (n:=13) (S:=fun w'=>w'.cell? ⟨gb499,0,none⟩=some (.slice A0_0 l0_0.length c0_0)∧w'.cell? ⟨gb499,1,none⟩=some (.string a0_1)∧w'.cell? ⟨gb499,2,none⟩=some (.slice A0_2 l0_2.length c0_2)) (ds:=[]) #[G,G,G,G,G,G,G,G,G,G,G,G,G] (by kernel_rfl) rfl rfl ⟨(blk_cell BK499.out 0).trans rfl,(blk_cell BK499.out 1).trans rfl,(blk_cell BK499.out 2).trans rfl⟩ (fun hHeld=>?_); refine with_tabW legateref07_World_Seal.tab4 legateref07_World_Seal.bits4 (fun HT_ HW_=>?_)
   generalize w18.drew=w19 at BK499 HB hHeld ⊢
   refine zq 0 (some 33) ?_ #[O,G,G,G,G,G,G,G,G,G,G,G,G] rfl rfl (any_of HT_.out (by kernel_rfl)) (fun _ _ _ h=>h) (Or.inl ⟨by rfl,?_⟩) ?_ ?_ ?_
   rotate_left;(intro w';go_simp;with_reducible rfl);rotate_left;(simp only [Act.put,zp];rfl)
   refine zq 1 (some 34) ?_ #[O,O,G,G,G,G,G,G,G,G,G,G,G] rfl rfl (any_of HT_.out (by kernel_rfl)) (fun _ _ _ h=>h) (Or.inl ⟨by rfl,?_⟩) ?_ ?_ ?_
   rotate_left;(intro w';go_simp;with_reducible rfl);rotate_left;(simp only [Act.put,zp];rfl)
   refine zq 3 (some 36) ?_ #[O,O,G,O,G,G,G,G,G,G,G,G,G] rfl rfl (any_of HT_.out (by kernel_rfl)) (fun _ _ _ h=>h) (Or.inl ⟨by rfl,?_⟩) ?_ ?_ ?_
   rotate_left;(intro w';go_simp;with_reducible rfl);rotate_left;(simp only [Act.put,zp];rfl)
   refine zq 5 (some 38) ?_ #[O,O,G,O,G,O,G,G,G,G,G,G,G] rfl rfl (any_of HT_.out (by kernel_rfl)) (fun _ _ _ h=>h) (Or.inl ⟨by rfl,?_⟩) ?_ ?_ ?_
   rotate_left;(intro w';go_simp;with_reducible rfl);rotate_left;(simp only [Act.put,zp];rfl)
   refine zq 6 (some 39) ?_ #[O,O,G,O,G,O,O,G,G,G,G,G,G] rfl rfl (any_of HT_.out (by kernel_rfl)) (fun _ _ _ h=>h) (Or.inl ⟨by rfl,?_⟩) ?_ ?_ ?_
   rotate_left;(intro w';go_simp;with_reducible rfl);rotate_left;(simp only [Act.put,zp];rfl)
   refine zq 8 (some 41) ?_ #[O,O,G,O,G,O,O,G,O,G,G,G,G] rfl rfl (any_of HT_.out (by kernel_rfl)) (fun _ _ _ h=>h) (Or.inl ⟨by rfl,?_⟩) ?_ ?_ ?_
   rotate_left;(intro w';go_simp;with_reducible rfl);rotate_left;(simp only [Act.put,zp];rfl)
   refine take_ (i:=2) (N:=some 35) (v:=?_) (a':=?_) #[O,O,O,O,G,O,O,G,O,G,G,G,G] rfl rfl (take_ofW HT_.out HW_.out (by kernel_rfl)) (fun _ _ _ h=>h) (Or.inl ⟨by rfl,?_⟩) hHeld ?_ ?_
   rotate_left
   ·rintro w' ⟨s0,s1,s2⟩
    go_simp
    with_reducible rfl
   rotate_left
   ·simp only [Act.put,zp]
    rfl
   refine take_ (i:=4) (N:=some 37) (v:=?_) (a':=?_) #[O,O,O,O,O,O,O,G,O,G,G,G,G] rfl rfl (take_ofW HT_.out HW_.out (by kernel_rfl)) (fun _ _ _ h=>h) (Or.inl ⟨by rfl,?_⟩) hHeld ?_ ?_
   rotate_left
   ·rintro w' ⟨s0,s1,s2⟩
    go_simp
    with_reducible rfl
   rotate_left
   ·simp only [Act.put,zp]
    rfl
   refine one_ (i:=7) (N:=some 40) #[O,O,O,O,O,O,O,O,O,G,G,G,G] rfl rfl (one_of HT_.out (by kernel_rfl)) (by decide) (fun K hK=>?_)
   refine goes_ Tryd.func45 (by kernel_rfl) rfl #[.agg #[.slice A0_0 l0_0.length c0_0,.string a0_1],.string a1,.int .i64 a2] (by rfl) rfl rfl (by (try simp only [zm]); first|done|rfl|(simp only [zl]; rfl)) ?_
   with_reducible refine (legateref06_Sum.calls kj5 _ _ l0_0 a0_1 a1 a2 t502 _ ?side1 ?side2 A13.out).mono ?_
   (case side1=>repeat (first|exact (Kd.C_below HR0_0.out HB.out)|(with_reducible refine Kd.C_alloc ?_ _)|(with_reducible refine Kd.C_drewN ?_ _)|(with_reducible refine Kd.C_drew ?_)))
   (case side2=>exact HC0_0.out)
   rintro e w20 ⟨rfl,hb⟩
   refine ⟨_,rfl,?_⟩
   have n0_:=zK (blk_below (g:=gb499) (o:=.cells #[.slice A0_0 l0_0.length c0_0,.string a0_1,.slice A0_2 l0_2.length c0_2] 52 (0,0)) (by (with_reducible repeat (first|refine blk_drewN ?_ _|refine blk_drew ?_|refine blk_alloc ?_ _)); exact BK499.out) hb)
   have n1_:=zK (below_step (by repeat (first|(with_reducible first|exact HB.out|apply zA|apply zN|apply zD|refine below_set ?_ GE499.out)|exact HB.out)) hb)
   clear BK499
   clear HB
   have BK499:=n0_
   have HB:=n1_
   clear n0_ n1_
   (try clear hb)
   (try clear hb2)
   (try clear hk)
   (try clear hi)
   refine hK.out _ _ ⟨(blk_cell BK499.out 0).trans rfl,(blk_cell BK499.out 1).trans rfl,(blk_cell BK499.out 2).trans rfl⟩ (fun hHeld=>?_)
   clear hK K
   refine norm_ (a':=?_) ?_ ?_
   rotate_left
   ·show Act.put _ (some 40) _=_
    simp only [Act.put,zp]
    rfl
   refine one_ (i:=9) (N:=some 42) #[O,O,O,O,O,O,O,O,O,O,G,G,G] rfl rfl (one_of HT_.out (by kernel_rfl)) (by decide) (fun K hK=>?_)
   refine goes_ Tryd.func36 (by kernel_rfl) rfl #[.agg #[.slice A0_0 l0_0.length c0_0,.string a0_1],.string t502,.string (a3++t501)] (by rfl) rfl rfl (by (try simp only [zm]); first|done|rfl|(simp only [zl]; rfl)) ?_
   with_reducible refine (legateref03_Tables_Mac.calls kj5 _ _ l0_0 a0_1 t502 (a3++t501) t503 _ ?side1 ?side2 A14.out).mono ?_
   (case side1=>repeat (first|exact (Kd.C_below HR0_0.out HB.out)|(with_reducible refine Kd.C_alloc ?_ _)|(with_reducible refine Kd.C_drewN ?_ _)|(with_reducible refine Kd.C_drew ?_)))
   (case side2=>exact HC0_0.out)
   rintro e w21 ⟨rfl,hb⟩
   refine ⟨_,rfl,?_⟩
   have n0_:=zK (blk_below (g:=gb499) (o:=.cells #[.slice A0_0 l0_0.length c0_0,.string a0_1,.slice A0_2 l0_2.length c0_2] 52 (0,0)) (by (with_reducible repeat (first|refine blk_drewN ?_ _|refine blk_drew ?_|refine blk_alloc ?_ _)); exact BK499.out) hb)
   have n1_:=zK (below_step (by repeat (first|(with_reducible first|exact HB.out|apply zA|apply zN|apply zD|refine below_set ?_ GE499.out)|exact HB.out)) hb)
   clear BK499
   clear HB
   have BK499:=n0_
   have HB:=n1_
   clear n0_ n1_
   (try clear hb)
   (try clear hb2)
   (try clear hk)
   (try clear hi)
   refine hK.out _ _ ⟨(blk_cell BK499.out 0).trans rfl,(blk_cell BK499.out 1).trans rfl,(blk_cell BK499.out 2).trans rfl⟩ (fun hHeld=>?_)
   clear hK K
   refine norm_ (a':=?_) ?_ ?_
   rotate_left
   ·show Act.put _ (some 42) _=_
    simp only [Act.put,zp]
    rfl
   refine zq 10 (some 43) ?_ #[O,O,O,O,O,O,O,O,O,O,O,G,G] rfl rfl (any_of HT_.out (by kernel_rfl)) (fun _ _ _ h=>h) (Or.inl ⟨by rfl,?_⟩) ?_ ?_ ?_
   rotate_left;(intro w';go_simp;with_reducible rfl);rotate_left;(simp only [Act.put,zp];rfl)
   refine zq 11 (some 10) ?_ #[O,O,O,O,O,O,O,O,O,O,O,O,G] rfl rfl (any_of HT_.out (by kernel_rfl)) (fun _ _ _ h=>h) (Or.inl ⟨by rfl,?_⟩) ?_ ?_ ?_
   rotate_left;(intro w';go_simp;with_reducible rfl);rotate_left;(simp only [Act.put,zp];rfl)
   refine zq 12 (some 11) ?_ #[O,O,O,O,O,O,O,O,O,O,O,O,O] rfl rfl (any_of HT_.out (by kernel_rfl)) (fun _ _ _ h=>h) (Or.inl ⟨by rfl,?_⟩) ?_ ?_ ?_
   rotate_left;(intro w';go_simp;with_reducible rfl);rotate_left;(simp only [Act.put,zp];rfl)
   refine done_ (done_of HT_.out (by kernel_rfl)) ?_
   try go_wp2
   go_ret2
   exact ⟨by first|rfl|(simp [errW_none,errW_some]<;>rfl)|(simp [*,errW_none,errW_some]<;>rfl),by repeat (first|(with_reducible first|exact HB.out|apply zA|apply zN|apply zD|refine below_set ?_ GE499.out)|exact HB.out)⟩
end Go.Proofs.YtkgijkfcmbpgpaaDoor.PAll
end
