import Derived.Test.YtkgijkfcmbpgpaaDoorS2b0
import Derived.Test.YtkgijkfcmbpgpaaDoorS2b1
import Derived.Test.YtkgijkfcmbpgpaaDoorS2b2
section
namespace Go.Proofs.YtkgijkfcmbpgpaaDoor.PAll
open Go.RowKit Go.Proofs.YtkgijkfcmbpgpaaDoorW.PrintWords Go.Proofs.YtkgijkfcmbpgpaaDoorW.PrintLast Go.Proofs.YtkgijkfcmbpgpaaDoorW.PrintMore
attribute [local go_sem] max2_int min2_int max_two min_two max_three min_three max_four min_four
set_option linter.unusedVariables false
set_option linter.unusedSimpArgs false
def legateref02_digits.f (a0:Int):Option (List Int):=some (([Int.tmod a0 65536,Int.tmod (wrap64 (Int.tdiv a0 65536)) 65536,wrap64 (Int.tdiv (wrap64 (Int.tdiv a0 65536)) 65536)]:List Int))
set_option maxHeartbeats 8000000 in
set_option maxRecDepth 100000 in
theorem legateref02_digits.calls (a0:Int) (r:List Int) (w:World) (h:legateref02_digits.f a0=some r) :
 Calls Tryd.prog 79 #[.int .i64 a0] w fun e w'=>∃ v0_:Value,e=.returned (v0_)∧Kd.R (Kd.int .i64) 3 w' w.heap.size (fun _=>True) v0_ r∧Below w.heap.size w w':=by
 have HB:=zK (Below.refl w.heap.size w)
 have H:(some (([Int.tmod a0 65536,Int.tmod (wrap64 (Int.tdiv a0 65536)) 65536,wrap64 (Int.tdiv (wrap64 (Int.tdiv a0 65536)) 65536)]:List Int)))=some r:=h
 clear h
 obtain ⟨y118,hy118⟩:∃ y_:List Int,y_=(([Int.tmod a0 65536,Int.tmod (wrap64 (Int.tdiv a0 65536)) 65536,wrap64 (Int.tdiv (wrap64 (Int.tdiv a0 65536)) 65536)]:List Int)):=⟨_,rfl⟩
 replace H:(some y118)=some r:=by first|(rw [hy118]; with_reducible exact H)|(have H2_:=(Option.bind_some _ _).symm.trans H; rw [hy118]; with_reducible exact H2_)|(have H2_:=(Option.bind_some _ _).symm.trans H; with_reducible exact H2_)|with_reducible exact H|(rw [hy118]; exact H)|exact H
 have Ny118:=zK hy118
 clear hy118
 obtain rfl:=Option.some.inj H
 go_enter Tryd.func79,Tryd.ntmps79
 go_wp2_with (first|((with_reducible refine gate_dst (N:=11) rfl ?_); refine Kd.R_lit (Kd.int .i64) _ 3 ?hg (N:=11) ?hd (xs:=([Int.tmod a0 65536,Int.tmod (wrap64 (Int.tdiv a0 65536)) 65536,wrap64 (Int.tdiv (wrap64 (Int.tdiv a0 65536)) 65536)]:List Int)) (inner:=[.int .i64 (Int.tmod a0 65536),.int .i64 (Int.tmod (wrap64 (Int.tdiv a0 65536)) 65536),.int .i64 (wrap64 (Int.tdiv (wrap64 (Int.tdiv a0 65536)) 65536))]) (ok:=fun _=>True) (okp:=fun _=>True) ?hr ?hp (fun _ hk=>hk) trivial (Below.refl _ _) (Nat.le_refl _) (by simp) ?_; (case hd=>rfl); (case hg=>rfl); (case hr=>first|(go_simp; done)|(go_simp; rfl)); (case hp=>exact (Reps.one (show Kd.M (Kd.int .i64) _ _ _ (Int.tmod a0 65536) [.int .i64 (Int.tmod a0 65536)] from rfl) (Reps.one (show Kd.M (Kd.int .i64) _ _ _ (Int.tmod (wrap64 (Int.tdiv a0 65536)) 65536) [.int .i64 (Int.tmod (wrap64 (Int.tdiv a0 65536)) 65536)] from rfl) (Reps.one (show Kd.M (Kd.int .i64) _ _ _ (wrap64 (Int.tdiv (wrap64 (Int.tdiv a0 65536)) 65536)) [.int .i64 (wrap64 (Int.tdiv (wrap64 (Int.tdiv a0 65536)) 65536))] from rfl) (Reps.none _ _))))); intro v119 w2 ho3 hb hg_ hnew_; clear hg_ hnew_; (first|rw [← Ny118.out] at ho3|(simp only [Int.reduceToNat] at ho3; rw [← Ny118.out] at ho3)); have n0_:=zK (Kd.R_lower ho3 (below_size (by repeat (first|(with_reducible first|exact HB.out|apply zA|apply zN|apply zD)|exact HB.out)))); have n1_:=zK (below_step (by repeat (first|(with_reducible first|exact HB.out|apply zA|apply zN|apply zD)|exact HB.out)) hb); clear HB; have HO120:=n0_; have HB:=n1_; clear n0_ n1_; clear hb ho3))
 go_ret
 exact ⟨_,by first|rfl|(simp [errW_none,errW_some]<;>rfl)|(simp [*,errW_none,errW_some]<;>rfl),by (with_reducible repeat (first|apply Kd.R_alloc|apply Kd.R_drewN|apply Kd.R_drew)); exact HO120.out,by repeat (first|(with_reducible first|exact HB.out|apply zA|apply zN|apply zD)|exact HB.out)⟩
mutual
def legateref02_times.l0:Nat→List Int→List Int→List Int→Int→Option (List Int)
  | 0,_,_,_,_=>none
  | k+1,x0,x1,x5,x6=>if x6<(x0.length:Int) then (legateref02_times.l1 k x0 x1 x5 x6 0 0) else (some x5)
def legateref02_times.l1:Nat→List Int→List Int→List Int→Int→Int→Int→Option (List Int)
  | 0,_,_,_,_,_,_=>none
  | k+1,x0,x1,x5,x6,x7,x8=>if x8<(x1.length:Int) then (if 0≤(wrap64 (x6+x8)) then (if (wrap64 (x6+x8))<(x5.length:Int) then (if 0≤x6 then (if x6<(x0.length:Int) then (if 0≤x8 then (legateref02_times.l1 k x0 x1 (x5.set ((wrap64 (x6+x8)):Int).toNat (Int.tmod (wrap64 ((wrap64 ((rd x5 (wrap64 (x6+x8)))+(wrap64 ((rd x0 x6) * (rd x1 x8)))))+x7)) 65536)) x6 (wrap64 (Int.tdiv (wrap64 ((wrap64 ((rd x5 (wrap64 (x6+x8)))+(wrap64 ((rd x0 x6) * (rd x1 x8)))))+x7)) 65536)) (wrap64 (x8+1))) else (none)) else (none)) else (none)) else (none)) else (none)) else (if 0≤(wrap64 (x6+(x1.length:Int))) then (if (wrap64 (x6+(x1.length:Int)))<(x5.length:Int) then (legateref02_times.l0 k x0 x1 (x5.set ((wrap64 (x6+(x1.length:Int))):Int).toNat x7) (wrap64 (x6+1))) else (none)) else (none))
end
def legateref02_times.f (k:Nat) (l0:List Int) (l1:List Int):Option (List Int):=if 0≤(wrap64 ((l0.length:Int)+(l1.length:Int))) then (if (wrap64 ((l0.length:Int)+(l1.length:Int)):Int).toNat≤35184372088832 then (legateref02_times.l0 k l0 l1 (List.replicate (wrap64 ((l0.length:Int)+(l1.length:Int)):Int).toNat 0) 0) else (none)) else (none)
theorem legateref02_times.mono_l:∀ k,(∀ y0 y1 y2 y3,LeO (legateref02_times.l0 k y0 y1 y2 y3) (legateref02_times.l0 (k+1) y0 y1 y2 y3))∧(∀ y0 y1 y2 y3 y4 y5,LeO (legateref02_times.l1 k y0 y1 y2 y3 y4 y5) (legateref02_times.l1 (k+1) y0 y1 y2 y3 y4 y5))
 | 0=>⟨fun _ _ _ _ r h=>by simp [legateref02_times.l0] at h,fun _ _ _ _ _ _ r h=>by simp [legateref02_times.l1] at h⟩
 | k+1=>by
  obtain ⟨ih0,ih1⟩:=legateref02_times.mono_l k
  refine ⟨?_,?_⟩
  ·intro y0 y1 y2 y3
   unfold legateref02_times.l0
   repeat' first
   | (with_reducible exact ih0 _ _ _ _)
   | (with_reducible exact ih1 _ _ _ _ _ _)
   | (with_reducible exact LeO.refl _)
   | (with_reducible exact LeO.none _)
   | (with_reducible refine LeO.ite ?_ ?_)
   | (with_reducible refine LeO.bind ?_ (fun _=>?_))
   | exact ih0 _ _ _ _
   | exact ih1 _ _ _ _ _ _
   | exact LeO.none _
   | refine LeO.ite ?_ ?_
   | refine LeO.bind ?_ (fun _=>?_)
  ·intro y0 y1 y2 y3 y4 y5
   unfold legateref02_times.l1
   repeat' first
   | (with_reducible exact ih0 _ _ _ _)
   | (with_reducible exact ih1 _ _ _ _ _ _)
   | (with_reducible exact LeO.refl _)
   | (with_reducible exact LeO.none _)
   | (with_reducible refine LeO.ite ?_ ?_)
   | (with_reducible refine LeO.bind ?_ (fun _=>?_))
   | exact ih0 _ _ _ _
   | exact ih1 _ _ _ _ _ _
   | exact LeO.none _
   | refine LeO.ite ?_ ?_
   | refine LeO.bind ?_ (fun _=>?_)
theorem legateref02_times.mono:∀ a0 a1 k,LeO (legateref02_times.f k a0 a1) (legateref02_times.f (k+1) a0 a1):=by
 intro a0 a1 k
 obtain ⟨ih0,ih1⟩:=legateref02_times.mono_l k
 unfold legateref02_times.f
 repeat' first
  | (with_reducible exact ih0 _ _ _ _)
  | (with_reducible exact ih1 _ _ _ _ _ _)
  | (with_reducible exact LeO.refl _)
  | (with_reducible exact LeO.none _)
  | (with_reducible refine LeO.ite ?_ ?_)
  | (with_reducible refine LeO.bind ?_ (fun _=>?_))
  | exact ih0 _ _ _ _
  | exact ih1 _ _ _ _ _ _
  | exact LeO.none _
  | refine LeO.ite ?_ ?_
  | refine LeO.bind ?_ (fun _=>?_)
set_option maxHeartbeats 8000000 in
set_option maxRecDepth 100000 in
theorem legateref02_times.calls (k:Nat) (A0:Option Addr) (c0:Nat) (l0:List Int) (A1:Option Addr) (c1:Nat) (l1:List Int) (r:List Int) (w:World) (hr0:Kd.C (Kd.int .i64) w A0 l0.length l0) (hc0:l0.length≤c0) (hr1:Kd.C (Kd.int .i64) w A1 l1.length l1) (hc1:l1.length≤c1) (h:legateref02_times.f k l0 l1=some r) :
 Calls Tryd.prog 80 #[.slice A0 l0.length c0,.slice A1 l1.length c1] w fun e w'=>∃ v0_:Value,e=.returned (v0_)∧Kd.R (Kd.int .i64) 3 w' w.heap.size (fun _=>True) v0_ r∧Below w.heap.size w w':=by
 have HR0:=zK hr0
 have HC0:=zK hc0
 clear hr0 hc0
 have HR1:=zK hr1
 have HC1:=zK hc1
 clear hr1 hc1
 have HB:=zK (Below.refl w.heap.size w)
 have H:(if 0≤(wrap64 ((l0.length:Int)+(l1.length:Int))) then (if (wrap64 ((l0.length:Int)+(l1.length:Int)):Int).toNat≤35184372088832 then (legateref02_times.l0 k l0 l1 (List.replicate (wrap64 ((l0.length:Int)+(l1.length:Int)):Int).toNat 0) 0) else (none)) else (none))=some r:=h
 clear h
 obtain ⟨ji3,hji3⟩:∃ j_:Int,(wrap64 ((l0.length:Int)+(l1.length:Int)))=j_:=⟨_,rfl⟩
 replace H:(if 0≤(ji3) then (if (ji3:Int).toNat≤35184372088832 then (legateref02_times.l0 k l0 l1 (List.replicate (ji3:Int).toNat 0) 0) else (none)) else (none))=some r:=by first|(rw [hji3] at H; exact H)|(simp only [hji3] at H ⊢; exact H)
 have hji3w:(IntKind.i64.wrap ((l0.length:Int)+(l1.length:Int)))=ji3:=(i64_w _).trans hji3
 by_cases c4:0≤(ji3)
 case neg =>
  rw [if_neg c4] at H
  exact absurd H (by simp)
 rw [if_pos c4] at H
 have c4b0:=eq_true c4
 have c4b1:decide (0≤(ji3))=true:=decide_eq_true c4
 clear c4
 by_cases c5:(ji3:Int).toNat≤35184372088832
 case neg =>
  rw [if_neg c5] at H
  exact absurd H (by simp)
 rw [if_pos c5] at H
 have c5b0:=eq_true c5
 have c5b1:decide ((ji3:Int).toNat≤35184372088832)=true:=decide_eq_true c5
 clear c5
 obtain ⟨y121,hy121⟩:∃ y_:List Int,y_=(List.replicate (ji3:Int).toNat 0):=⟨_,rfl⟩
 replace H:(legateref02_times.l0 k l0 l1 y121 0)=some r:=by first|(rw [hy121]; with_reducible exact H)|(have H2_:=(Option.bind_some _ _).symm.trans H; rw [hy121]; with_reducible exact H2_)|(have H2_:=(Option.bind_some _ _).symm.trans H; with_reducible exact H2_)|with_reducible exact H|(rw [hy121]; exact H)|exact H
 have Ny121:=zK hy121
 clear hy121
 have H':=zK H
 clear H
 go_enter Tryd.func80,Tryd.ntmps80
 go_wp2_with (first|((with_reducible refine gate_dst (N:=15) rfl ?_); refine Kd.R_make (Kd.int .i64) _ 3 rfl (N:=15) rfl 27 _ _ rfl ji3 rfl rfl Tryd.underlying27 (.int .i64 0) 8 info3 rfl (by decide) (by omega) 0 (ok:=fun _=>True) (okp:=fun _=>True) rfl (fun _ hk=>hk) trivial (of_decide_eq_true (by first|(with_reducible assumption)|assumption)) (Nat.le_trans (Nat.mul_le_mul_right _ (of_decide_eq_true (by first|(with_reducible assumption)|assumption):ji3.toNat≤35184372088832)) (by omega)) (Below.refl _ _) (Nat.le_refl _) ?_; intro v122 w6 ho7 hb hg_ hnew_; clear hg_ hnew_; (first|rw [← Ny121.out] at ho7|(simp only [Int.reduceToNat] at ho7; rw [← Ny121.out] at ho7)); have n0_:=zK (Kd.R_lower ho7 (below_size (by repeat (first|(with_reducible first|exact HB.out|apply zA|apply zN|apply zD)|exact HB.out)))); have n1_:=zK (below_step (by repeat (first|(with_reducible first|exact HB.out|apply zA|apply zN|apply zD)|exact HB.out)) hb); clear HB; have HO123:=n0_; have HB:=n1_; clear n0_ n1_; clear hb ho7))
 repeat (go_quiet (first|((with_reducible refine gate_dst (N:=15) rfl ?_); refine Kd.R_make (Kd.int .i64) _ 3 rfl (N:=15) rfl 27 _ _ rfl ji3 rfl rfl Tryd.underlying27 (.int .i64 0) 8 info3 rfl (by decide) (by omega) 0 (ok:=fun _=>True) (okp:=fun _=>True) rfl (fun _ hk=>hk) trivial (of_decide_eq_true (by first|(with_reducible assumption)|assumption)) (Nat.le_trans (Nat.mul_le_mul_right _ (of_decide_eq_true (by first|(with_reducible assumption)|assumption):ji3.toNat≤35184372088832)) (by omega)) (Below.refl _ _) (Nat.le_refl _) ?_; intro v122 w6 ho7 hb hg_ hnew_; clear hg_ hnew_; (first|rw [← Ny121.out] at ho7|(simp only [Int.reduceToNat] at ho7; rw [← Ny121.out] at ho7)); have n0_:=zK (Kd.R_lower ho7 (below_size (by repeat (first|(with_reducible first|exact HB.out|apply zA|apply zN|apply zD)|exact HB.out)))); have n1_:=zK (below_step (by repeat (first|(with_reducible first|exact HB.out|apply zA|apply zN|apply zD)|exact HB.out)) hb); clear HB; have HO123:=n0_; have HB:=n1_; clear n0_ n1_; clear hb ho7)); try go_wp2_with (first|((with_reducible refine gate_dst (N:=15) rfl ?_); refine Kd.R_make (Kd.int .i64) _ 3 rfl (N:=15) rfl 27 _ _ rfl ji3 rfl rfl Tryd.underlying27 (.int .i64 0) 8 info3 rfl (by decide) (by omega) 0 (ok:=fun _=>True) (okp:=fun _=>True) rfl (fun _ hk=>hk) trivial (of_decide_eq_true (by first|(with_reducible assumption)|assumption)) (Nat.le_trans (Nat.mul_le_mul_right _ (of_decide_eq_true (by first|(with_reducible assumption)|assumption):ji3.toNat≤35184372088832)) (by omega)) (Below.refl _ _) (Nat.le_refl _) ?_; intro v122 w6 ho7 hb hg_ hnew_; clear hg_ hnew_; (first|rw [← Ny121.out] at ho7|(simp only [Int.reduceToNat] at ho7; rw [← Ny121.out] at ho7)); have n0_:=zK (Kd.R_lower ho7 (below_size (by repeat (first|(with_reducible first|exact HB.out|apply zA|apply zN|apply zD)|exact HB.out)))); have n1_:=zK (below_step (by repeat (first|(with_reducible first|exact HB.out|apply zA|apply zN|apply zD)|exact HB.out)) hb); clear HB; have HO123:=n0_; have HB:=n1_; clear n0_ n1_; clear hb ho7)))
 go_loopg [6] k (fun kq v6 w'=>∃ (x5_1:List Int) (x6_1:Int),v6=.int .i64 x6_1∧Aside0 (legateref02_times.l0 kq l0 l1 x5_1 x6_1=some r)∧Aside0 (kq≤k)∧Aside0 (Kd.R (Kd.int .i64) 3 w' w.heap.size (fun _=>True) v122 x5_1)∧Aside0 (Below w.heap.size w w'))
 case atStart=>exact ⟨(y121),(0),(by first|rfl|(simp; done)|(simp [*]; done)),H',⟨Nat.le_refl _⟩,⟨by (with_reducible repeat (first|apply Kd.R_alloc|apply Kd.R_drewN|apply Kd.R_drew)); exact HO123.out⟩,⟨by repeat (first|(with_reducible first|exact HB.out|apply zA|apply zN|apply zD)|exact HB.out)⟩⟩
 case round =>
  clear H'
  try clear c1
  try clear p2
  try clear c4
  try clear c4b0
  try clear c4b1
  try clear c5
  try clear c5b0
  try clear c5b1
  try clear p6
  obtain ⟨x5_1,x6_1,rfl,HA,HK1,HO_5,HB⟩:=hrel
  cases gk with
  | zero=>exact absurd HA.out (by simp [legateref02_times.l0])
  | succ k1 =>
   have H:=HA.out
   clear HA
   simp only [legateref02_times.l0] at H
   by_cases c8:x6_1<(l0.length:Int)
   case neg =>
    rw [if_neg c8] at H
    have c8b0:decide (x6_1<(l0.length:Int))=false:=decide_eq_false c8
    clear c8
    obtain rfl:=Option.some.inj H
    go_wp2
    repeat (go_quiet (fail); try go_wp2)
    go_ret
    exact ⟨_,by first|rfl|(simp [errW_none,errW_some]<;>rfl)|(simp only [← hji3]; first|rfl|(simp [errW_none,errW_some]<;>rfl))|(simp [*,errW_none,errW_some]<;>rfl),by (with_reducible repeat (first|apply Kd.R_alloc|apply Kd.R_drewN|apply Kd.R_drew)); exact HO_5.out,by repeat (first|(with_reducible first|exact HB.out|apply zA|apply zN|apply zD)|exact HB.out)⟩
   rw [if_pos c8] at H
   have c8b0:decide (x6_1<(l0.length:Int))=true:=decide_eq_true c8
   clear c8
   have H':=zK H
   clear H
   go_wp2
   repeat (go_quiet (fail); try go_wp2)
   go_loopg [7,8] k1 (fun kq v7 v8 w'=>∃ (x5_2:List Int) (x7_2:Int) (x8_2:Int),v7=.int .i64 x7_2∧v8=.int .i64 x8_2∧Aside0 (legateref02_times.l1 kq l0 l1 x5_2 x6_1 x7_2 x8_2=some r)∧Aside0 (kq≤k1)∧Aside0 (Kd.R (Kd.int .i64) 3 w' w.heap.size (fun _=>True) v122 x5_2)∧Aside0 (Below w.heap.size w w'))
   case atStart=>exact ⟨(x5_1),(0),(0),(by first|rfl|(simp; done)|(simp [*]; done)),(by first|rfl|(simp; done)|(simp [*]; done)),H',⟨Nat.le_refl _⟩,⟨by (with_reducible repeat (first|apply Kd.R_alloc|apply Kd.R_drewN|apply Kd.R_drew)); exact HO_5.out⟩,⟨by repeat (first|(with_reducible first|exact HB.out|apply zA|apply zN|apply zD)|exact HB.out)⟩⟩
   case round =>
    clear H'
    try clear c1
    try clear p2
    try clear c4
    try clear c4b0
    try clear c4b1
    try clear c5
    try clear c5b0
    try clear c5b1
    try clear p6
    try clear c8
    try clear c8b0
    try clear p2
    try clear p6
    obtain ⟨x5_2,x7_2,x8_2,rfl,rfl,HA,HK2,HO_5,HB⟩:=hrel
    cases gk with
    | zero=>exact absurd HA.out (by simp [legateref02_times.l1])
    | succ k2 =>
     have H:=HA.out
     clear HA
     simp only [legateref02_times.l1] at H
     by_cases c9:x8_2<(l1.length:Int)
     case neg =>
      rw [if_neg c9] at H
      have c9b0:decide (x8_2<(l1.length:Int))=false:=decide_eq_false c9
      clear c9
      obtain ⟨ji20,hji20⟩:∃ j_:Int,(wrap64 (x6_1+(l1.length:Int)))=j_:=⟨_,rfl⟩
      replace H:(if 0≤(ji20) then (if (ji20)<(x5_2.length:Int) then (legateref02_times.l0 k2 l0 l1 (x5_2.set ((ji20):Int).toNat x7_2) (wrap64 (x6_1+1))) else (none)) else (none))=some r:=by first|(rw [hji20] at H; exact H)|(simp only [hji20] at H ⊢; exact H)
      have hji20w:(IntKind.i64.wrap (x6_1+(l1.length:Int)))=ji20:=(i64_w _).trans hji20
      by_cases c21:0≤(ji20)
      case neg =>
       rw [if_neg c21] at H
       exact absurd H (by simp)
      rw [if_pos c21] at H
      have c21b0:decide (0≤(ji20))=true:=decide_eq_true c21
      clear c21
      by_cases c22:(ji20)<(x5_2.length:Int)
      case neg =>
       rw [if_neg c22] at H
       exact absurd H (by simp)
      rw [if_pos c22] at H
      have c22b0:decide ((ji20)<(x5_2.length:Int))=true:=decide_eq_true c22
      clear c22
      obtain ⟨y128,hy128⟩:∃ y_:List Int,y_=(x5_2.set ((ji20):Int).toNat x7_2):=⟨_,rfl⟩
      replace H:(legateref02_times.l0 k2 l0 l1 y128 (wrap64 (x6_1+1)))=some r:=by first|(rw [hy128]; with_reducible exact H)|(have H2_:=(Option.bind_some _ _).symm.trans H; rw [hy128]; with_reducible exact H2_)|(have H2_:=(Option.bind_some _ _).symm.trans H; with_reducible exact H2_)|with_reducible exact H|(rw [hy128]; exact H)|exact H
      have Ny128:=zK hy128
      clear hy128
      have H':=zK H
      clear H
      have p23:0≤((ji20):Int):=of_decide_eq_true (by first|(with_reducible assumption)|assumption)
      have q23:((ji20):Int)<((x5_2.length:Int):Int):=of_decide_eq_true (by first|(with_reducible assumption)|assumption)
      obtain ⟨go23,co23,eo23,gb23,gl23,cl23,HG23⟩:=Kd.R_form HO_5.out (by omega)
      (first|cases eo23|(injection eo23 with ea_ en_ ec_; (first|subst ea_|(injection ea_ with ea_; subst ea_)); subst ec_; clear en_))
      have GB23:=zK gb23
      have GG23:=zK HG23
      clear gb23 gl23 HG23
      obtain ⟨hx23_0,hf23_0⟩:=Kd.R_celln 0 HO_5.out ((ji20):Int) p23 q23
      replace p23:=eq_true p23
      replace q23:=eq_true q23
      have HP24:=Kd.R_putg HO_5.out ((ji20):Int) x7_2
      go_wp2_with (first|((with_reducible refine gate_store (t:=3) (p:=61) rfl ?_); (try (rw [drewN_self wr]; generalize hq_:World.drewN wr _=wr; have n0_:=zK (Kd.R_at hq_ HO_5.out); have n1_:=zK (below_at hq_ HB.out); clear hq_ HO_5 HB; have HO_5:=n0_; have HB:=n1_; clear n0_ n1_; (try (have HP24:=Kd.R_putg HO_5.out ((ji20):Int) x7_2)))); refine store_event (t:=3) (p:=61) (v:=?vo_w25) (w1:=(wr.setCell ⟨go23,((ji20):Int).toNat,none⟩ (.int .i64 x7_2))) ?hg ?ho ?hn ?hr ?_; (case ho=>rfl); (case hg=>rfl); (case hn=>rfl); (case hr=>first|(go_simp; done)|(go_simp; rfl)); intro w25 hw; have hg:wr.grownBy w25 (some go23):=(by rw [hw]; exact HP24.2); have hp_:Kd.R (Kd.int .i64) 3 w25 w.heap.size (fun _=>True) (.slice (some ⟨go23,0,none⟩) x5_2.length co23) y128:=(by rw [hw,Ny128.out]; exact HP24.1); clear HP24; have n0_:=zK (hp_); have n1_:=zK ((by rw [hw]; exact below_set (HB.out) GB23.out:Below w.heap.size w w25)); clear HO_5; clear HB; have HO_5:=n0_; have HB:=n1_; clear n0_ n1_; clear hg hw hp_))
      repeat (go_quiet (first|((with_reducible refine gate_store (t:=3) (p:=61) rfl ?_); (try (rw [drewN_self wr]; generalize hq_:World.drewN wr _=wr; have n0_:=zK (Kd.R_at hq_ HO_5.out); have n1_:=zK (below_at hq_ HB.out); clear hq_ HO_5 HB; have HO_5:=n0_; have HB:=n1_; clear n0_ n1_; (try (have HP24:=Kd.R_putg HO_5.out ((ji20):Int) x7_2)))); refine store_event (t:=3) (p:=61) (v:=?vo_w25) (w1:=(wr.setCell ⟨go23,((ji20):Int).toNat,none⟩ (.int .i64 x7_2))) ?hg ?ho ?hn ?hr ?_; (case ho=>rfl); (case hg=>rfl); (case hn=>rfl); (case hr=>first|(go_simp; done)|(go_simp; rfl)); intro w25 hw; have hg:wr.grownBy w25 (some go23):=(by rw [hw]; exact HP24.2); have hp_:Kd.R (Kd.int .i64) 3 w25 w.heap.size (fun _=>True) (.slice (some ⟨go23,0,none⟩) x5_2.length co23) y128:=(by rw [hw,Ny128.out]; exact HP24.1); clear HP24; have n0_:=zK (hp_); have n1_:=zK ((by rw [hw]; exact below_set (HB.out) GB23.out:Below w.heap.size w w25)); clear HO_5; clear HB; have HO_5:=n0_; have HB:=n1_; clear n0_ n1_; clear hg hw hp_)); try go_wp2_with (first|((with_reducible refine gate_store (t:=3) (p:=61) rfl ?_); (try (rw [drewN_self wr]; generalize hq_:World.drewN wr _=wr; have n0_:=zK (Kd.R_at hq_ HO_5.out); have n1_:=zK (below_at hq_ HB.out); clear hq_ HO_5 HB; have HO_5:=n0_; have HB:=n1_; clear n0_ n1_; (try (have HP24:=Kd.R_putg HO_5.out ((ji20):Int) x7_2)))); refine store_event (t:=3) (p:=61) (v:=?vo_w25) (w1:=(wr.setCell ⟨go23,((ji20):Int).toNat,none⟩ (.int .i64 x7_2))) ?hg ?ho ?hn ?hr ?_; (case ho=>rfl); (case hg=>rfl); (case hn=>rfl); (case hr=>first|(go_simp; done)|(go_simp; rfl)); intro w25 hw; have hg:wr.grownBy w25 (some go23):=(by rw [hw]; exact HP24.2); have hp_:Kd.R (Kd.int .i64) 3 w25 w.heap.size (fun _=>True) (.slice (some ⟨go23,0,none⟩) x5_2.length co23) y128:=(by rw [hw,Ny128.out]; exact HP24.1); clear HP24; have n0_:=zK (hp_); have n1_:=zK ((by rw [hw]; exact below_set (HB.out) GB23.out:Below w.heap.size w w25)); clear HO_5; clear HB; have HO_5:=n0_; have HB:=n1_; clear n0_ n1_; clear hg hw hp_)))
      go_roundg k2
      case measure=>have:=HK1.out; have:=HK2.out; omega
      case rel=>exact ⟨(y128),(wrap64 (x6_1+1)),(by first|rfl|(simp; done)|(simp [*]; done)),H',⟨by have:=HK1.out; have:=HK2.out; omega⟩,⟨by (with_reducible repeat (first|apply Kd.R_alloc|apply Kd.R_drewN|apply Kd.R_drew)); exact HO_5.out⟩,⟨by repeat (first|(with_reducible first|exact HB.out|apply zA|apply zN|apply zD)|exact HB.out)⟩⟩
     rw [if_pos c9] at H
     have c9b0:decide (x8_2<(l1.length:Int))=true:=decide_eq_true c9
     clear c9
     obtain ⟨ji10,hji10⟩:∃ j_:Int,(wrap64 (x6_1+x8_2))=j_:=⟨_,rfl⟩
     replace H:(if 0≤(ji10) then (if (ji10)<(x5_2.length:Int) then (if 0≤x6_1 then (if x6_1<(l0.length:Int) then (if 0≤x8_2 then (legateref02_times.l1 k2 l0 l1 (x5_2.set ((ji10):Int).toNat (Int.tmod (wrap64 ((wrap64 ((rd x5_2 (ji10))+(wrap64 ((rd l0 x6_1) * (rd l1 x8_2)))))+x7_2)) 65536)) x6_1 (wrap64 (Int.tdiv (wrap64 ((wrap64 ((rd x5_2 (ji10))+(wrap64 ((rd l0 x6_1) * (rd l1 x8_2)))))+x7_2)) 65536)) (wrap64 (x8_2+1))) else (none)) else (none)) else (none)) else (none)) else (none))=some r:=by first|(rw [hji10] at H; exact H)|(simp only [hji10] at H ⊢; exact H)
     have hji10w:(IntKind.i64.wrap (x6_1+x8_2))=ji10:=(i64_w _).trans hji10
     by_cases c11:0≤(ji10)
     case neg =>
      rw [if_neg c11] at H
      exact absurd H (by simp)
     rw [if_pos c11] at H
     have c11b0:decide (0≤(ji10))=true:=decide_eq_true c11
     clear c11
     by_cases c12:(ji10)<(x5_2.length:Int)
     case neg =>
      rw [if_neg c12] at H
      exact absurd H (by simp)
     rw [if_pos c12] at H
     have c12b0:decide ((ji10)<(x5_2.length:Int))=true:=decide_eq_true c12
     clear c12
     by_cases c13:0≤x6_1
     case neg =>
      rw [if_neg c13] at H
      exact absurd H (by simp)
     rw [if_pos c13] at H
     have c13b0:decide (0≤x6_1)=true:=decide_eq_true c13
     clear c13
     by_cases c14:x6_1<(l0.length:Int)
     case neg =>
      rw [if_neg c14] at H
      exact absurd H (by simp)
     rw [if_pos c14] at H
     have c14b0:decide (x6_1<(l0.length:Int))=true:=decide_eq_true c14
     clear c14
     by_cases c15:0≤x8_2
     case neg =>
      rw [if_neg c15] at H
      exact absurd H (by simp)
     rw [if_pos c15] at H
     have c15b0:decide (0≤x8_2)=true:=decide_eq_true c15
     clear c15
     obtain ⟨y127,hy127⟩:∃ y_:List Int,y_=(x5_2.set ((ji10):Int).toNat (Int.tmod (wrap64 ((wrap64 ((rd x5_2 (ji10))+(wrap64 ((rd l0 x6_1) * (rd l1 x8_2)))))+x7_2)) 65536)):=⟨_,rfl⟩
     replace H:(legateref02_times.l1 k2 l0 l1 y127 x6_1 (wrap64 (Int.tdiv (wrap64 ((wrap64 ((rd x5_2 (ji10))+(wrap64 ((rd l0 x6_1) * (rd l1 x8_2)))))+x7_2)) 65536)) (wrap64 (x8_2+1)))=some r:=by first|(rw [hy127]; with_reducible exact H)|(have H2_:=(Option.bind_some _ _).symm.trans H; rw [hy127]; with_reducible exact H2_)|(have H2_:=(Option.bind_some _ _).symm.trans H; with_reducible exact H2_)|with_reducible exact H|(rw [hy127]; exact H)|exact H
     have Ny127:=zK hy127
     clear hy127
     have H':=zK H
     clear H
     obtain ⟨Ao17,co17,eo17⟩:=Kd.R_slice HO_5.out
     subst eo17
     have p124:0≤((ji10):Int):=of_decide_eq_true (by first|(with_reducible assumption)|assumption)
     have q124:(ji10)<(x5_2.length:Int):=of_decide_eq_true (by first|(with_reducible assumption)|assumption)
     obtain ⟨ad124,e124,hx124_0⟩:=Kd.at_int (Kd.R_reads' HO_5.out).2.2 (ji10) p124 q124
     cases e124
     replace p124:=eq_true p124
     replace q124:=eq_true q124
     have p125:0≤(x6_1:Int):=of_decide_eq_true (by first|(with_reducible assumption)|assumption)
     have q125:x6_1<(l0.length:Int):=of_decide_eq_true (by first|(with_reducible assumption)|assumption)
     obtain ⟨ad125,e125,hx125_0⟩:=Kd.at_int HR0.out x6_1 p125 q125
     cases e125
     replace hx125_0:=(HB.out.cell (World.block_lt_of_cell? w _ hx125_0)).trans hx125_0
     replace p125:=eq_true p125
     replace q125:=eq_true q125
     have p126:0≤(x8_2:Int):=of_decide_eq_true (by first|(with_reducible assumption)|assumption)
     have q126:x8_2<(l1.length:Int):=of_decide_eq_true (by first|(with_reducible assumption)|assumption)
     obtain ⟨ad126,e126,hx126_0⟩:=Kd.at_int HR1.out x8_2 p126 q126
     cases e126
     replace hx126_0:=(HB.out.cell (World.block_lt_of_cell? w _ hx126_0)).trans hx126_0
     replace p126:=eq_true p126
     replace q126:=eq_true q126
     have p16:0≤((ji10):Int):=of_decide_eq_true (by first|(with_reducible assumption)|assumption)
     have q16:((ji10):Int)<((x5_2.length:Int):Int):=of_decide_eq_true (by first|(with_reducible assumption)|assumption)
     obtain ⟨go16,co16,eo16,gb16,gl16,cl16,HG16⟩:=Kd.R_form HO_5.out (by omega)
     (first|cases eo16|(injection eo16 with ea_ en_ ec_; (first|subst ea_|(injection ea_ with ea_; subst ea_)); subst ec_; clear en_))
     have GB16:=zK gb16
     have GG16:=zK HG16
     clear gb16 gl16 HG16
     (first|simp only [add_plain] at hx124_0|skip)
     obtain ⟨hx16_0,hf16_0⟩:=Kd.R_celln 0 HO_5.out ((ji10):Int) p16 q16
     replace p16:=eq_true p16
     replace q16:=eq_true q16
     have HP18:=Kd.R_putg HO_5.out ((ji10):Int) (Int.tmod (wrap64 ((wrap64 ((rd x5_2 (ji10))+(wrap64 ((rd l0 x6_1) * (rd l1 x8_2)))))+x7_2)) 65536)
     go_wp2_with (first|((with_reducible refine gate_store (t:=3) (p:=52) rfl ?_); (try (rw [drewN_self wr]; generalize hq_:World.drewN wr _=wr; have n0_:=zK (Kd.R_at hq_ HO_5.out); have n1_:=zK (below_at hq_ HB.out); clear hq_ HO_5 HB; have HO_5:=n0_; have HB:=n1_; clear n0_ n1_; (try (have HP18:=Kd.R_putg HO_5.out ((ji10):Int) (Int.tmod (wrap64 ((wrap64 ((rd x5_2 (ji10))+(wrap64 ((rd l0 x6_1) * (rd l1 x8_2)))))+x7_2)) 65536))))); refine store_event (t:=3) (p:=52) (v:=?vo_w19) (w1:=(wr.setCell ⟨go16,((ji10):Int).toNat,none⟩ (.int .i64 (Int.tmod (wrap64 ((wrap64 ((rd x5_2 (ji10))+(wrap64 ((rd l0 x6_1) * (rd l1 x8_2)))))+x7_2)) 65536)))) ?hg ?ho ?hn ?hr ?_; (case ho=>rfl); (case hg=>rfl); (case hn=>rfl); (case hr=>first|(go_simp; done)|(go_simp; rfl)); intro w19 hw; have hg:wr.grownBy w19 (some go16):=(by rw [hw]; exact HP18.2); have hp_:Kd.R (Kd.int .i64) 3 w19 w.heap.size (fun _=>True) (.slice (some ⟨go16,0,none⟩) x5_2.length co17) y127:=(by rw [hw,Ny127.out]; exact HP18.1); clear HP18; have n0_:=zK (hp_); have n1_:=zK ((by rw [hw]; exact below_set (HB.out) GB16.out:Below w.heap.size w w19)); clear HO_5; clear HB; have HO_5:=n0_; have HB:=n1_; clear n0_ n1_; clear hg hw hp_))
     repeat (go_quiet (first|((with_reducible refine gate_store (t:=3) (p:=52) rfl ?_); (try (rw [drewN_self wr]; generalize hq_:World.drewN wr _=wr; have n0_:=zK (Kd.R_at hq_ HO_5.out); have n1_:=zK (below_at hq_ HB.out); clear hq_ HO_5 HB; have HO_5:=n0_; have HB:=n1_; clear n0_ n1_; (try (have HP18:=Kd.R_putg HO_5.out ((ji10):Int) (Int.tmod (wrap64 ((wrap64 ((rd x5_2 (ji10))+(wrap64 ((rd l0 x6_1) * (rd l1 x8_2)))))+x7_2)) 65536))))); refine store_event (t:=3) (p:=52) (v:=?vo_w19) (w1:=(wr.setCell ⟨go16,((ji10):Int).toNat,none⟩ (.int .i64 (Int.tmod (wrap64 ((wrap64 ((rd x5_2 (ji10))+(wrap64 ((rd l0 x6_1) * (rd l1 x8_2)))))+x7_2)) 65536)))) ?hg ?ho ?hn ?hr ?_; (case ho=>rfl); (case hg=>rfl); (case hn=>rfl); (case hr=>first|(go_simp; done)|(go_simp; rfl)); intro w19 hw; have hg:wr.grownBy w19 (some go16):=(by rw [hw]; exact HP18.2); have hp_:Kd.R (Kd.int .i64) 3 w19 w.heap.size (fun _=>True) (.slice (some ⟨go16,0,none⟩) x5_2.length co17) y127:=(by rw [hw,Ny127.out]; exact HP18.1); clear HP18; have n0_:=zK (hp_); have n1_:=zK ((by rw [hw]; exact below_set (HB.out) GB16.out:Below w.heap.size w w19)); clear HO_5; clear HB; have HO_5:=n0_; have HB:=n1_; clear n0_ n1_; clear hg hw hp_)); try go_wp2_with (first|((with_reducible refine gate_store (t:=3) (p:=52) rfl ?_); (try (rw [drewN_self wr]; generalize hq_:World.drewN wr _=wr; have n0_:=zK (Kd.R_at hq_ HO_5.out); have n1_:=zK (below_at hq_ HB.out); clear hq_ HO_5 HB; have HO_5:=n0_; have HB:=n1_; clear n0_ n1_; (try (have HP18:=Kd.R_putg HO_5.out ((ji10):Int) (Int.tmod (wrap64 ((wrap64 ((rd x5_2 (ji10))+(wrap64 ((rd l0 x6_1) * (rd l1 x8_2)))))+x7_2)) 65536))))); refine store_event (t:=3) (p:=52) (v:=?vo_w19) (w1:=(wr.setCell ⟨go16,((ji10):Int).toNat,none⟩ (.int .i64 (Int.tmod (wrap64 ((wrap64 ((rd x5_2 (ji10))+(wrap64 ((rd l0 x6_1) * (rd l1 x8_2)))))+x7_2)) 65536)))) ?hg ?ho ?hn ?hr ?_; (case ho=>rfl); (case hg=>rfl); (case hn=>rfl); (case hr=>first|(go_simp; done)|(go_simp; rfl)); intro w19 hw; have hg:wr.grownBy w19 (some go16):=(by rw [hw]; exact HP18.2); have hp_:Kd.R (Kd.int .i64) 3 w19 w.heap.size (fun _=>True) (.slice (some ⟨go16,0,none⟩) x5_2.length co17) y127:=(by rw [hw,Ny127.out]; exact HP18.1); clear HP18; have n0_:=zK (hp_); have n1_:=zK ((by rw [hw]; exact below_set (HB.out) GB16.out:Below w.heap.size w w19)); clear HO_5; clear HB; have HO_5:=n0_; have HB:=n1_; clear n0_ n1_; clear hg hw hp_)))
     go_roundg k2
     case measure=>have:=HK1.out; have:=HK2.out; omega
     case rel=>exact ⟨(y127),(wrap64 (Int.tdiv (wrap64 ((wrap64 ((rd x5_2 (ji10))+(wrap64 ((rd l0 x6_1) * (rd l1 x8_2)))))+x7_2)) 65536)),(wrap64 (x8_2+1)),(by first|rfl|(simp; done)|(simp only [← hji10]<;>(first|rfl|simp))|(simp [*]; done)),(by first|rfl|(simp; done)|(simp [*]; done)),H',⟨by have:=HK1.out; have:=HK2.out; omega⟩,⟨by (with_reducible repeat (first|apply Kd.R_alloc|apply Kd.R_drewN|apply Kd.R_drew)); (first|exact HO_5.out|(rw [Ny127.out]; exact (Kd.R_putg (Kd.R_drewN HO_5.out _) (ji10) (Int.tmod (wrap64 ((wrap64 ((rd x5_2 (ji10))+(wrap64 ((rd l0 x6_1) * (rd l1 x8_2)))))+x7_2)) 65536)).1))⟩,⟨by first|exact below_set (zN HB.out _) GB16.out|repeat (first|(with_reducible first|exact HB.out|apply zA|apply zN|apply zD)|exact HB.out)⟩⟩
mutual
def legateref02_above.l0:Nat→List Int→List Int→Int→Option (Bool)
  | 0,_,_,_=>none
  | k+1,x0,x1,x5=>if x5≥0 then (if x5<(x0.length:Int) then (if 0≤x5 then (legateref02_above.j1 k x0 x1 x5 (rd x0 x5) 0) else (none)) else (legateref02_above.j1 k x0 x1 x5 0 0)) else (some false)
def legateref02_above.j1:Nat→List Int→List Int→Int→Int→Int→Option (Bool)
  | 0,_,_,_,_,_=>none
  | k+1,x0,x1,x5,x6,x7=>if x5<(x1.length:Int) then (if 0≤x5 then (if x6=(rd x1 x5) then (legateref02_above.l0 k x0 x1 (wrap64 (x5 - 1))) else (some (decide (x6 > (rd x1 x5))))) else (none)) else (if x6=x7 then (legateref02_above.l0 k x0 x1 (wrap64 (x5 - 1))) else (some (decide (x6 > x7))))
end
def legateref02_above.f (k:Nat) (l0:List Int) (l1:List Int):Option (Bool):=legateref02_above.l0 k l0 l1 (wrap64 ((mx (l0.length:Int) (l1.length:Int)) - 1))
theorem legateref02_above.mono_l:∀ k,(∀ y0 y1 y2,LeO (legateref02_above.l0 k y0 y1 y2) (legateref02_above.l0 (k+1) y0 y1 y2))∧(∀ y0 y1 y2 y3 y4,LeO (legateref02_above.j1 k y0 y1 y2 y3 y4) (legateref02_above.j1 (k+1) y0 y1 y2 y3 y4))
 | 0=>⟨fun _ _ _ r h=>by simp [legateref02_above.l0] at h,fun _ _ _ _ _ r h=>by simp [legateref02_above.j1] at h⟩
 | k+1=>by
  obtain ⟨ih0,ih1⟩:=legateref02_above.mono_l k
  refine ⟨?_,?_⟩
  ·intro y0 y1 y2
   unfold legateref02_above.l0
   repeat' first
   | (with_reducible exact ih0 _ _ _)
   | (with_reducible exact ih1 _ _ _ _ _)
   | (with_reducible exact LeO.refl _)
   | (with_reducible exact LeO.none _)
   | (with_reducible refine LeO.ite ?_ ?_)
   | (with_reducible refine LeO.bind ?_ (fun _=>?_))
   | exact ih0 _ _ _
   | exact ih1 _ _ _ _ _
   | exact LeO.none _
   | refine LeO.ite ?_ ?_
   | refine LeO.bind ?_ (fun _=>?_)
  ·intro y0 y1 y2 y3 y4
   unfold legateref02_above.j1
   repeat' first
   | (with_reducible exact ih0 _ _ _)
   | (with_reducible exact ih1 _ _ _ _ _)
   | (with_reducible exact LeO.refl _)
   | (with_reducible exact LeO.none _)
   | (with_reducible refine LeO.ite ?_ ?_)
   | (with_reducible refine LeO.bind ?_ (fun _=>?_))
   | exact ih0 _ _ _
   | exact ih1 _ _ _ _ _
   | exact LeO.none _
   | refine LeO.ite ?_ ?_
   | refine LeO.bind ?_ (fun _=>?_)
theorem legateref02_above.mono:∀ a0 a1 k,LeO (legateref02_above.f k a0 a1) (legateref02_above.f (k+1) a0 a1):=by
 intro a0 a1 k
 obtain ⟨ih0,ih1⟩:=legateref02_above.mono_l k
 unfold legateref02_above.f
 repeat' first
  | (with_reducible exact ih0 _ _ _)
  | (with_reducible exact ih1 _ _ _ _ _)
  | (with_reducible exact LeO.refl _)
  | (with_reducible exact LeO.none _)
  | (with_reducible refine LeO.ite ?_ ?_)
  | (with_reducible refine LeO.bind ?_ (fun _=>?_))
  | exact ih0 _ _ _
  | exact ih1 _ _ _ _ _
  | exact LeO.none _
  | refine LeO.ite ?_ ?_
  | refine LeO.bind ?_ (fun _=>?_)
set_option maxHeartbeats 8000000 in
set_option maxRecDepth 100000 in
theorem legateref02_above.calls (k:Nat) (A0:Option Addr) (c0:Nat) (l0:List Int) (A1:Option Addr) (c1:Nat) (l1:List Int) (r:Bool) (w:World) (hr0:Kd.C (Kd.int .i64) w A0 l0.length l0) (hc0:l0.length≤c0) (hr1:Kd.C (Kd.int .i64) w A1 l1.length l1) (hc1:l1.length≤c1) (h:legateref02_above.f k l0 l1=some r) :
 Calls Tryd.prog 81 #[.slice A0 l0.length c0,.slice A1 l1.length c1] w fun e w'=>e=.returned (.bool r)∧Below w.heap.size w w':=by
 have HR0:=zK hr0
 have HC0:=zK hc0
 clear hr0 hc0
 have HR1:=zK hr1
 have HC1:=zK hc1
 clear hr1 hc1
 have HB:=zK (Below.refl w.heap.size w)
 have H:(legateref02_above.l0 k l0 l1 (wrap64 ((mx (l0.length:Int) (l1.length:Int)) - 1)))=some r:=h
 clear h
 obtain ⟨ji3,hji3⟩:∃ j_:Int,(mx (l0.length:Int) (l1.length:Int))=j_:=⟨_,rfl⟩
 replace H:(legateref02_above.l0 k l0 l1 (wrap64 ((ji3) - 1)))=some r:=by first|(rw [hji3] at H; exact H)|(simp only [hji3] at H ⊢; exact H)
 (try (have hji3l:0≤ji3:=by (rw [← hji3]; unfold mx; (repeat' split)<;>omega)))
 (try (have hji3m:0≤ji3:=by omega))
 have hji3_:(if (l0.length:Int)<(l1.length:Int) then (l1.length:Int) else (l0.length:Int))=ji3:=hji3
 have hji3n:(if l0.length<l1.length then (l1.length:Int) else (l0.length:Int))=ji3:=by rw [← hji3_]; simp
 have H':=zK H
 clear H
 go_enter Tryd.func81,Tryd.ntmps81
 go_wp2
 go_loopg [5] k (fun kq v5 w'=>∃ (x5_1:Int),v5=.int .i64 x5_1∧Aside0 (legateref02_above.l0 kq l0 l1 x5_1=some r)∧Aside0 (kq≤k)∧Aside0 (Below w.heap.size w w'))
 case atStart=>exact ⟨(wrap64 ((ji3) - 1)),(by first|rfl|(simp; done)|(simp only [← hji3]<;>(first|rfl|simp))|(simp [*]; done)),H',⟨Nat.le_refl _⟩,⟨by repeat (first|(with_reducible first|exact HB.out|apply zA|apply zN|apply zD)|exact HB.out)⟩⟩
 case round =>
  clear H'
  try clear c1
  try clear p2
  obtain ⟨x5_1,rfl,HA,HK1,HB⟩:=hrel
  cases gk with
  | zero=>exact absurd HA.out (by simp [legateref02_above.l0])
  | succ k1 =>
   have H:=HA.out
   clear HA
   simp only [legateref02_above.l0] at H
   by_cases c4:x5_1≥0
   case neg =>
    rw [if_neg c4] at H
    have c4b0:decide (0≤x5_1)=false:=decide_eq_false c4
    clear c4
    obtain rfl:=Option.some.inj H
    go_wp2
    go_ret
    exact ⟨by first|rfl|(simp [errW_none,errW_some]<;>rfl)|(simp only [← hji3]; first|rfl|(simp [errW_none,errW_some]<;>rfl))|(simp [*,errW_none,errW_some]<;>rfl),by repeat (first|(with_reducible first|exact HB.out|apply zA|apply zN|apply zD)|exact HB.out)⟩
   rw [if_pos c4] at H
   have c4b0:decide (0≤x5_1)=true:=decide_eq_true c4
   clear c4
   have HC5:=zK H
   clear H
   go_upto_if 21 with (fail)
   go_cut [6] (fun v6 wc=>∃ (kq:Nat) (x6_4:Int),v6=.int .i64 x6_4∧Aside0 (legateref02_above.j1 kq l0 l1 x5_1 x6_4 0=some r)∧Aside0 (kq≤k1)∧Aside0 (Below w.heap.size w wc))
   case first =>
    have H:=HC5.out
    clear HC5
    by_cases c6:x5_1<(l0.length:Int)
    case neg =>
     rw [if_neg c6] at H
     have c6b0:decide (x5_1<(l0.length:Int))=false:=decide_eq_false c6
     clear c6
     (first|rw [c6b0]|(simp only [i64_w,i32_w]; rw [c6b0])|skip)
     have H':=zK H
     clear H
     go_wp2
     go_meet
     case rel=>exact ⟨_,(0),(by first|rfl|(simp; done)|(simp [*]; done)),H',⟨by have:=HK1.out; first|omega|exact Nat.le_refl _⟩,⟨by repeat (first|(with_reducible first|exact HB.out|apply zA|apply zN|apply zD)|exact HB.out)⟩⟩
    rw [if_pos c6] at H
    have c6b0:decide (x5_1<(l0.length:Int))=true:=decide_eq_true c6
    clear c6
    (first|rw [c6b0]|(simp only [i64_w,i32_w]; rw [c6b0])|skip)
    by_cases c7:0≤x5_1
    case neg =>
     rw [if_neg c7] at H
     exact absurd H (by simp)
    rw [if_pos c7] at H
    have c7b0:decide (0≤x5_1)=true:=decide_eq_true c7
    clear c7
    have H':=zK H
    clear H
    have p129:0≤(x5_1:Int):=of_decide_eq_true (by first|(with_reducible assumption)|assumption)
    have q129:x5_1<(l0.length:Int):=of_decide_eq_true (by first|(with_reducible assumption)|assumption)
    obtain ⟨ad129,e129,hx129_0⟩:=Kd.at_int HR0.out x5_1 p129 q129
    cases e129
    replace hx129_0:=(HB.out.cell (World.block_lt_of_cell? w _ hx129_0)).trans hx129_0
    replace p129:=eq_true p129
    replace q129:=eq_true q129
    go_wp2
    go_meet
    case rel=>exact ⟨_,(rd l0 x5_1),(by first|rfl|(simp; done)|(simp [*]; done)),H',⟨by have:=HK1.out; first|omega|exact Nat.le_refl _⟩,⟨by repeat (first|(with_reducible first|exact HB.out|apply zA|apply zN|apply zD)|exact HB.out)⟩⟩
   case rest =>
    clear HC5
    try clear c1
    try clear p1
    try clear q1
    try clear hx1
    try clear p2
    try clear c4
    try clear c4b0
    try clear c6
    try clear c6b0
    try clear p6
    try clear c7
    try clear c7b0
    try clear hx129_0
    try clear p129
    try clear p2
    try clear q129
    obtain ⟨kq,x6_4,rfl,HA,HJ4,HB⟩:=hcut
    cases kq with
    | zero=>exact absurd HA.out (by simp [legateref02_above.j1])
    | succ kj4 =>
     have H:=HA.out
     clear HA
     simp only [legateref02_above.j1] at H
     by_cases c8:x5_1<(l1.length:Int)
     case neg =>
      rw [if_neg c8] at H
      have c8b0:decide (x5_1<(l1.length:Int))=false:=decide_eq_false c8
      clear c8
      by_cases c11:x6_4=0
      case neg =>
       rw [if_neg c11] at H
       have c11b0:(x6_4 == 0)=false:=beq_eq_false_iff_ne.mpr c11
       have c11b1:(x6_4 != 0)=true:=bne_iff_ne.mpr c11
       obtain rfl:=Option.some.inj H
       go_wp2
       go_ret
       exact ⟨by first|rfl|(simp [errW_none,errW_some]<;>rfl)|(simp only [← hji3]; first|rfl|(simp [errW_none,errW_some]<;>rfl))|(simp [*,errW_none,errW_some]<;>rfl),by repeat (first|(with_reducible first|exact HB.out|apply zA|apply zN|apply zD)|exact HB.out)⟩
      rw [if_pos c11] at H
      have c11b0:(x6_4 == 0)=true:=beq_iff_eq.mpr c11
      have c11b1:(x6_4 != 0)=false:=bne_eq_false_iff_eq.mpr c11
      clear c11
      have H':=zK H
      clear H
      go_wp2
      go_roundg kj4
      case measure=>have:=HK1.out; have:=HJ4.out; omega
      case rel=>exact ⟨(wrap64 (x5_1 - 1)),(by first|rfl|(simp; done)|(simp [*]; done)),H',⟨by have:=HK1.out; have:=HJ4.out; omega⟩,⟨by repeat (first|(with_reducible first|exact HB.out|apply zA|apply zN|apply zD)|exact HB.out)⟩⟩
     rw [if_pos c8] at H
     have c8b0:decide (x5_1<(l1.length:Int))=true:=decide_eq_true c8
     clear c8
     by_cases c9:0≤x5_1
     case neg =>
      rw [if_neg c9] at H
      exact absurd H (by simp)
     rw [if_pos c9] at H
     have c9b0:decide (0≤x5_1)=true:=decide_eq_true c9
     clear c9
     by_cases c10:x6_4=(rd l1 x5_1)
     case neg =>
      rw [if_neg c10] at H
      have c10b0:(x6_4 == (rd l1 x5_1))=false:=beq_eq_false_iff_ne.mpr c10
      have c10b1:(x6_4 != (rd l1 x5_1))=true:=bne_iff_ne.mpr c10
      obtain rfl:=Option.some.inj H
      have p130:0≤(x5_1:Int):=of_decide_eq_true (by first|(with_reducible assumption)|assumption)
      have q130:x5_1<(l1.length:Int):=of_decide_eq_true (by first|(with_reducible assumption)|assumption)
      obtain ⟨ad130,e130,hx130_0⟩:=Kd.at_int HR1.out x5_1 p130 q130
      cases e130
      replace hx130_0:=(HB.out.cell (World.block_lt_of_cell? w _ hx130_0)).trans hx130_0
      replace p130:=eq_true p130
      replace q130:=eq_true q130
      go_wp2
      go_ret
      exact ⟨by first|rfl|(simp [errW_none,errW_some]<;>rfl)|(simp only [← hji3]; first|rfl|(simp [errW_none,errW_some]<;>rfl))|(simp [*,errW_none,errW_some]<;>rfl),by repeat (first|(with_reducible first|exact HB.out|apply zA|apply zN|apply zD)|exact HB.out)⟩
     rw [if_pos c10] at H
     have c10b0:(x6_4 == (rd l1 x5_1))=true:=beq_iff_eq.mpr c10
     have c10b1:(x6_4 != (rd l1 x5_1))=false:=bne_eq_false_iff_eq.mpr c10
     clear c10
     have H':=zK H
     clear H
     have p130:0≤(x5_1:Int):=of_decide_eq_true (by first|(with_reducible assumption)|assumption)
     have q130:x5_1<(l1.length:Int):=of_decide_eq_true (by first|(with_reducible assumption)|assumption)
     obtain ⟨ad130,e130,hx130_0⟩:=Kd.at_int HR1.out x5_1 p130 q130
     cases e130
     replace hx130_0:=(HB.out.cell (World.block_lt_of_cell? w _ hx130_0)).trans hx130_0
     replace p130:=eq_true p130
     replace q130:=eq_true q130
     go_wp2
     go_roundg kj4
     case measure=>have:=HK1.out; have:=HJ4.out; omega
     case rel=>exact ⟨(wrap64 (x5_1 - 1)),(by first|rfl|(simp; done)|(simp [*]; done)),H',⟨by have:=HK1.out; have:=HJ4.out; omega⟩,⟨by repeat (first|(with_reducible first|exact HB.out|apply zA|apply zN|apply zD)|exact HB.out)⟩⟩
mutual
def legateref02_root.j0:Nat→Bool→List Int→Option (Int)
  | 0,_,_=>none
  | k+1,x1,x5=>legateref02_root.l0 k x1 x5 0 137438953472
def legateref02_root.l0:Nat→Bool→List Int→Int→Int→Option (Int)
  | 0,_,_,_,_=>none
  | k+1,x1,x5,x6,x7=>if x7 > 0 then ((legateref02_digits.f (wrap64 (x6+x7))).bind fun t137=>((legateref02_times.f k t137 t137).bind fun t140=>(if x1=true then ((legateref02_times.f k t140 t137).bind fun t143=>((legateref02_above.f k t143 x5).bind fun t146=>(if t146=true then (legateref02_root.l0 k x1 x5 x6 (wrap64 (Int.tdiv x7 2))) else (legateref02_root.l0 k x1 x5 (wrap64 (x6+x7)) (wrap64 (Int.tdiv x7 2)))))) else ((legateref02_above.f k t140 x5).bind fun t147=>(if t147=true then (legateref02_root.l0 k x1 x5 x6 (wrap64 (Int.tdiv x7 2))) else (legateref02_root.l0 k x1 x5 (wrap64 (x6+x7)) (wrap64 (Int.tdiv x7 2)))))))) else (some (Int.tmod x6 4294967296))
end
def legateref02_root.f (k:Nat) (a0:Int) (a1:Bool):Option (Int):=if a1=true then (legateref02_root.j0 k a1 (([0,0,0,0,0,0,a0]:List Int))) else (legateref02_root.j0 k a1 (([0,0,0,0,a0]:List Int)))
theorem legateref02_root.mono_l:∀ k,(∀ y0 y1,LeO (legateref02_root.j0 k y0 y1) (legateref02_root.j0 (k+1) y0 y1))∧(∀ y0 y1 y2 y3,LeO (legateref02_root.l0 k y0 y1 y2 y3) (legateref02_root.l0 (k+1) y0 y1 y2 y3))
 | 0=>⟨fun _ _ r h=>by simp [legateref02_root.j0] at h,fun _ _ _ _ r h=>by simp [legateref02_root.l0] at h⟩
 | k+1=>by
  obtain ⟨ih0,ih1⟩:=legateref02_root.mono_l k
  refine ⟨?_,?_⟩
  ·intro y0 y1
   unfold legateref02_root.j0
   repeat' first
   | (with_reducible exact ih0 _ _)
   | (with_reducible exact ih1 _ _ _ _)
   | (with_reducible exact legateref02_above.mono _ _ _)
   | (with_reducible exact legateref02_times.mono _ _ _)
   | (with_reducible exact LeO.refl _)
   | (with_reducible exact LeO.none _)
   | (with_reducible refine LeO.ite ?_ ?_)
   | (with_reducible refine LeO.bind ?_ (fun _=>?_))
   | exact ih0 _ _
   | exact ih1 _ _ _ _
   | exact legateref02_above.mono _ _ _
   | exact legateref02_times.mono _ _ _
   | exact LeO.none _
   | refine LeO.ite ?_ ?_
   | refine LeO.bind ?_ (fun _=>?_)
  ·intro y0 y1 y2 y3
   unfold legateref02_root.l0
   repeat' first
   | (with_reducible exact ih0 _ _)
   | (with_reducible exact ih1 _ _ _ _)
   | (with_reducible exact legateref02_above.mono _ _ _)
   | (with_reducible exact legateref02_times.mono _ _ _)
   | (with_reducible exact LeO.refl _)
   | (with_reducible exact LeO.none _)
   | (with_reducible refine LeO.ite ?_ ?_)
   | (with_reducible refine LeO.bind ?_ (fun _=>?_))
   | exact ih0 _ _
   | exact ih1 _ _ _ _
   | exact legateref02_above.mono _ _ _
   | exact legateref02_times.mono _ _ _
   | exact LeO.none _
   | refine LeO.ite ?_ ?_
   | refine LeO.bind ?_ (fun _=>?_)
theorem legateref02_root.mono:∀ a0 a1 k,LeO (legateref02_root.f k a0 a1) (legateref02_root.f (k+1) a0 a1):=by
 intro a0 a1 k
 obtain ⟨ih0,ih1⟩:=legateref02_root.mono_l k
 unfold legateref02_root.f
 repeat' first
  | (with_reducible exact ih0 _ _)
  | (with_reducible exact ih1 _ _ _ _)
  | (with_reducible exact legateref02_above.mono _ _ _)
  | (with_reducible exact legateref02_times.mono _ _ _)
  | (with_reducible exact LeO.refl _)
  | (with_reducible exact LeO.none _)
  | (with_reducible refine LeO.ite ?_ ?_)
  | (with_reducible refine LeO.bind ?_ (fun _=>?_))
  | exact ih0 _ _
  | exact ih1 _ _ _ _
  | exact legateref02_above.mono _ _ _
  | exact legateref02_times.mono _ _ _
  | exact LeO.none _
  | refine LeO.ite ?_ ?_
  | refine LeO.bind ?_ (fun _=>?_)
set_option maxHeartbeats 8000000 in
set_option maxRecDepth 100000 in
theorem legateref02_root.calls (k:Nat) (a0:Int) (a1:Bool) (r:Int) (w:World) (h:legateref02_root.f k a0 a1=some r) :
 Calls Tryd.prog 63 #[.int .i64 a0,.bool a1] w fun e w'=>e=.returned (.int .i64 r)∧Below w.heap.size w w':=by
 have HB:=zK (Below.refl w.heap.size w)
 have H:(if a1=true then (legateref02_root.j0 k a1 (([0,0,0,0,0,0,a0]:List Int))) else (legateref02_root.j0 k a1 (([0,0,0,0,a0]:List Int))))=some r:=h
 clear h
 obtain ⟨y131,hy131⟩:∃ y_:List Int,y_=(([0,0,0,0,a0]:List Int)):=⟨_,rfl⟩
 replace H:(if a1=true then (legateref02_root.j0 k a1 (([0,0,0,0,0,0,a0]:List Int))) else (legateref02_root.j0 k a1 y131))=some r:=by first|(rw [hy131]; with_reducible exact H)|(have H2_:=(Option.bind_some _ _).symm.trans H; rw [hy131]; with_reducible exact H2_)|(have H2_:=(Option.bind_some _ _).symm.trans H; with_reducible exact H2_)|with_reducible exact H|(rw [hy131]; exact H)|exact H
 have Ny131:=zK hy131
 clear hy131
 have HC3:=zK H
 clear H
 go_enter Tryd.func63,Tryd.ntmps63
 go_upto_if 12 with (first|((with_reducible refine gate_dst (N:=11) rfl ?_); refine Kd.R_lit (Kd.int .i64) _ 3 ?hg (N:=11) ?hd (xs:=([0,0,0,0,a0]:List Int)) (inner:=[.int .i64 0,.int .i64 0,.int .i64 0,.int .i64 0,.int .i64 a0]) (ok:=fun _=>True) (okp:=fun _=>True) ?hr ?hp (fun _ hk=>hk) trivial (Below.refl _ _) (Nat.le_refl _) (by simp) ?_; (case hd=>rfl); (case hg=>rfl); (case hr=>first|(go_simp; done)|(go_simp; rfl)); (case hp=>exact (Reps.one (show Kd.M (Kd.int .i64) _ _ _ 0 [.int .i64 0] from rfl) (Reps.one (show Kd.M (Kd.int .i64) _ _ _ 0 [.int .i64 0] from rfl) (Reps.one (show Kd.M (Kd.int .i64) _ _ _ 0 [.int .i64 0] from rfl) (Reps.one (show Kd.M (Kd.int .i64) _ _ _ 0 [.int .i64 0] from rfl) (Reps.one (show Kd.M (Kd.int .i64) _ _ _ a0 [.int .i64 a0] from rfl) (Reps.none _ _))))))); intro v132 w4 ho5 hb hg_ hnew_; clear hg_ hnew_; (first|rw [← Ny131.out] at ho5|(simp only [Int.reduceToNat] at ho5; rw [← Ny131.out] at ho5)); have n0_:=zK (Kd.R_lower ho5 (below_size (by repeat (first|(with_reducible first|exact HB.out|apply zA|apply zN|apply zD)|exact HB.out)))); have n1_:=zK (below_step (by repeat (first|(with_reducible first|exact HB.out|apply zA|apply zN|apply zD)|exact HB.out)) hb); clear HB; have HO133:=n0_; have HB:=n1_; clear n0_ n1_; clear hb ho5))
 (try simp only [Act.put,List.setIfInBounds_toArray,List.set_cons_zero,List.set_cons_succ])
 go_cut [5] (fun v5 wc=>∃ (kq:Nat) (x5_2:List Int),Aside0 (legateref02_root.j0 kq a1 x5_2=some r)∧Aside0 (kq≤k)∧Aside0 (Kd.R (Kd.int .i64) 3 wc w.heap.size (fun _=>True) v5 x5_2)∧Aside0 (Below w.heap.size w wc))
 case first =>
  have H:=HC3.out
  clear HC3
  by_cases c6:a1=true
  case neg =>
   replace c6:=Bool.eq_false_iff.mpr c6
   subst c6
   have H1:(legateref02_root.j0 k false y131)=some r:=by rw [if_neg (show ¬ (false=true) by decide)] at H; exact H
   clear H
   have H:=H1
   clear H1
   have H':=zK H
   clear H
   go_wp2
   go_meet
   case rel=>exact ⟨_,(y131),H',⟨by first|omega|exact Nat.le_refl _⟩,⟨by (with_reducible repeat (first|apply Kd.R_alloc|apply Kd.R_drewN|apply Kd.R_drew)); exact HO133.out⟩,⟨by repeat (first|(with_reducible first|exact HB.out|apply zA|apply zN|apply zD)|exact HB.out)⟩⟩
  subst c6
  have H1:(legateref02_root.j0 k true (([0,0,0,0,0,0,a0]:List Int)))=some r:=by rw [if_pos rfl] at H; exact H
  clear H
  have H:=H1
  clear H1
  obtain ⟨y134,hy134⟩:∃ y_:List Int,y_=(([0,0,0,0,0,0,a0]:List Int)):=⟨_,rfl⟩
  replace H:(legateref02_root.j0 k true y134)=some r:=by first|(rw [hy134]; with_reducible exact H)|(have H2_:=(Option.bind_some _ _).symm.trans H; rw [hy134]; with_reducible exact H2_)|(have H2_:=(Option.bind_some _ _).symm.trans H; with_reducible exact H2_)|with_reducible exact H|(rw [hy134]; exact H)|exact H
  have Ny134:=zK hy134
  clear hy134
  have H':=zK H
  clear H
  go_wp2_with (first|((with_reducible refine gate_dst (N:=14) rfl ?_); refine Kd.R_lit (Kd.int .i64) _ 3 ?hg (N:=14) ?hd (xs:=([0,0,0,0,0,0,a0]:List Int)) (inner:=[.int .i64 0,.int .i64 0,.int .i64 0,.int .i64 0,.int .i64 0,.int .i64 0,.int .i64 a0]) (ok:=fun _=>True) (okp:=fun _=>True) ?hr ?hp (fun _ hk=>hk) trivial (Below.refl _ _) (Nat.le_refl _) (by simp) ?_; (case hd=>rfl); (case hg=>rfl); (case hr=>first|(go_simp; done)|(go_simp; rfl)); (case hp=>exact (Reps.one (show Kd.M (Kd.int .i64) _ _ _ 0 [.int .i64 0] from rfl) (Reps.one (show Kd.M (Kd.int .i64) _ _ _ 0 [.int .i64 0] from rfl) (Reps.one (show Kd.M (Kd.int .i64) _ _ _ 0 [.int .i64 0] from rfl) (Reps.one (show Kd.M (Kd.int .i64) _ _ _ 0 [.int .i64 0] from rfl) (Reps.one (show Kd.M (Kd.int .i64) _ _ _ 0 [.int .i64 0] from rfl) (Reps.one (show Kd.M (Kd.int .i64) _ _ _ 0 [.int .i64 0] from rfl) (Reps.one (show Kd.M (Kd.int .i64) _ _ _ a0 [.int .i64 a0] from rfl) (Reps.none _ _))))))))); intro v135 w7 ho8 hb hg_ hnew_; clear hg_ hnew_; (first|rw [← Ny134.out] at ho8|(simp only [Int.reduceToNat] at ho8; rw [← Ny134.out] at ho8)); have n0_:=zK (Kd.R_elder' (by (with_reducible repeat (first|apply Kd.R_alloc|apply Kd.R_drewN|apply Kd.R_drew)); exact HO133.out) (Kd.R_base ho8) hb); have n1_:=zK (Kd.R_lower (Kd.R_new' ho8 (Kd.R_lt (by (with_reducible repeat (first|apply Kd.R_alloc|apply Kd.R_drewN|apply Kd.R_drew)); exact HO133.out))) (below_size (by repeat (first|(with_reducible first|exact HB.out|apply zA|apply zN|apply zD)|exact HB.out)))); have n2_:=zK (below_step (by repeat (first|(with_reducible first|exact HB.out|apply zA|apply zN|apply zD)|exact HB.out)) hb); clear HO133; clear HB; have HO133:=n0_; have HO136:=n1_; have HB:=n2_; clear n0_ n1_ n2_; clear hb ho8))
  go_meet
  case rel=>exact ⟨_,(y134),H',⟨by first|omega|exact Nat.le_refl _⟩,⟨by (with_reducible repeat (first|apply Kd.R_alloc|apply Kd.R_drewN|apply Kd.R_drew)); exact Kd.R_mono HO136.out (fun _ hk=>trivial)⟩,⟨by repeat (first|(with_reducible first|exact HB.out|apply zA|apply zN|apply zD)|exact HB.out)⟩⟩
 case rest =>
  clear HC3
  try clear p2
  try clear c6
  obtain ⟨kq,x5_2,HA,HJ2,HO_5,HB⟩:=hcut
  cases kq with
  | zero=>exact absurd HA.out (by simp [legateref02_root.j0])
  | succ kj2 =>
   have H:=HA.out
   clear HA
   simp only [legateref02_root.j0] at H
   have H':=zK H
   clear H
   go_wp2
   go_loopg [6,7] kj2 (fun kq v6 v7 w'=>∃ (x6_2:Int) (x7_2:Int),v6=.int .i64 x6_2∧v7=.int .i64 x7_2∧Aside0 (legateref02_root.l0 kq a1 x5_2 x6_2 x7_2=some r)∧Aside0 (kq≤kj2)∧Aside0 (Kd.R (Kd.int .i64) 3 w' w.heap.size (fun _=>True) u5 x5_2)∧Aside0 (Below w.heap.size w w'))
   case atStart=>exact ⟨(0),(137438953472),(by first|rfl|(simp; done)|(simp [*]; done)),(by first|rfl|(simp; done)|(simp [*]; done)),H',⟨Nat.le_refl _⟩,⟨by (with_reducible repeat (first|apply Kd.R_alloc|apply Kd.R_drewN|apply Kd.R_drew)); exact HO_5.out⟩,⟨by repeat (first|(with_reducible first|exact HB.out|apply zA|apply zN|apply zD)|exact HB.out)⟩⟩
   case round =>
    clear H'
    try clear p2
    try clear c6
    try clear p2
    obtain ⟨x6_2,x7_2,rfl,rfl,HA,HK2,HO_5,HB⟩:=hrel
    cases gk with
    | zero=>exact absurd HA.out (by simp [legateref02_root.l0])
    | succ k2 =>
     have H:=HA.out
     clear HA
     simp only [legateref02_root.l0] at H
     by_cases c9:x7_2 > 0
     case neg =>
      rw [if_neg c9] at H
      have c9b0:decide (0<x7_2)=false:=decide_eq_false c9
      clear c9
      obtain rfl:=Option.some.inj H
      go_wp2
      go_ret
      exact ⟨by first|rfl|(simp [errW_none,errW_some]<;>rfl)|(simp [*,errW_none,errW_some]<;>rfl),by repeat (first|(with_reducible first|exact HB.out|apply zA|apply zN|apply zD)|exact HB.out)⟩
     rw [if_pos c9] at H
     have c9b0:decide (0<x7_2)=true:=decide_eq_true c9
     clear c9
     replace H:=Option.bind_eq_some_iff.mp H
     obtain ⟨t137,A100,H⟩:=H
     replace H:((legateref02_times.f k2 t137 t137).bind fun t140=>(if a1=true then ((legateref02_times.f k2 t140 t137).bind fun t143=>((legateref02_above.f k2 t143 x5_2).bind fun t146=>(if t146=true then (legateref02_root.l0 k2 a1 x5_2 x6_2 (wrap64 (Int.tdiv x7_2 2))) else (legateref02_root.l0 k2 a1 x5_2 (wrap64 (x6_2+x7_2)) (wrap64 (Int.tdiv x7_2 2)))))) else ((legateref02_above.f k2 t140 x5_2).bind fun t147=>(if t147=true then (legateref02_root.l0 k2 a1 x5_2 x6_2 (wrap64 (Int.tdiv x7_2 2))) else (legateref02_root.l0 k2 a1 x5_2 (wrap64 (x6_2+x7_2)) (wrap64 (Int.tdiv x7_2 2)))))))=some r:=H
     have A10:=zK A100
     clear A100
     replace H:=Option.bind_eq_some_iff.mp H
     obtain ⟨t140,A110,H⟩:=H
     replace H:(if a1=true then ((legateref02_times.f k2 t140 t137).bind fun t143=>((legateref02_above.f k2 t143 x5_2).bind fun t146=>(if t146=true then (legateref02_root.l0 k2 a1 x5_2 x6_2 (wrap64 (Int.tdiv x7_2 2))) else (legateref02_root.l0 k2 a1 x5_2 (wrap64 (x6_2+x7_2)) (wrap64 (Int.tdiv x7_2 2)))))) else ((legateref02_above.f k2 t140 x5_2).bind fun t147=>(if t147=true then (legateref02_root.l0 k2 a1 x5_2 x6_2 (wrap64 (Int.tdiv x7_2 2))) else (legateref02_root.l0 k2 a1 x5_2 (wrap64 (x6_2+x7_2)) (wrap64 (Int.tdiv x7_2 2))))))=some r:=H
     have A11:=zK A110
     clear A110
     by_cases c12:a1=true
     case neg =>
      replace c12:=Bool.eq_false_iff.mpr c12
      subst c12
      have H1:((legateref02_above.f k2 t140 x5_2).bind fun t147=>(if t147=true then (legateref02_root.l0 k2 false x5_2 x6_2 (wrap64 (Int.tdiv x7_2 2))) else (legateref02_root.l0 k2 false x5_2 (wrap64 (x6_2+x7_2)) (wrap64 (Int.tdiv x7_2 2)))))=some r:=by rw [if_neg (show ¬ (false=true) by decide)] at H; exact H
      clear H
      have H:=H1
      clear H1
      replace H:=Option.bind_eq_some_iff.mp H
      obtain ⟨t147,A320,H⟩:=H
      replace H:(if t147=true then (legateref02_root.l0 k2 false x5_2 x6_2 (wrap64 (Int.tdiv x7_2 2))) else (legateref02_root.l0 k2 false x5_2 (wrap64 (x6_2+x7_2)) (wrap64 (Int.tdiv x7_2 2))))=some r:=H
      have A32:=zK A320
      clear A320
      by_cases c33:t147=true
      case pos =>
       subst c33
       have H1:(legateref02_root.l0 k2 false x5_2 x6_2 (wrap64 (Int.tdiv x7_2 2)))=some r:=by rw [if_pos rfl] at H; exact H
       clear H
       have H:=H1
       clear H1
       have H':=zK H
       clear H
       go_wp2_with (first|((with_reducible refine gate_callee (f:=79) rfl ?_); refine goesL_ (some 22) rfl rfl Tryd.func79 (by kernel_rfl) rfl #[.int .i64 (wrap64 (x6_2+x7_2))] rfl (by (try simp only [zm]); first|done|rfl|(simp only [zl]; rfl)) ?_; (with_reducible refine (legateref02_digits.calls (wrap64 (x6_2+x7_2)) t137 _ A10.out).mono ?_); rintro e w34 ⟨v138,rfl,ho0,hb⟩; refine ⟨_,rfl,?_⟩; have n0_:=zK (Kd.R_elder' (by (with_reducible repeat (first|apply Kd.R_alloc|apply Kd.R_drewN|apply Kd.R_drew)); exact HO_5.out) (Kd.R_base ho0) hb); have n1_:=zK (Kd.R_lower (Kd.R_new' ho0 (Kd.R_lt (by (with_reducible repeat (first|apply Kd.R_alloc|apply Kd.R_drewN|apply Kd.R_drew)); exact HO_5.out))) (below_size (by repeat (first|(with_reducible first|exact HB.out|apply zA|apply zN|apply zD)|exact HB.out)))); have n2_:=zK (below_step (by repeat (first|(with_reducible first|exact HB.out|apply zA|apply zN|apply zD)|exact HB.out)) hb); clear HO_5; clear HB; have HO_5:=n0_; have HO139:=n1_; have HB:=n2_; clear n0_ n1_ n2_; (try clear hb); (try clear hb2); (try clear hk); (try clear hi); (try clear ho0); obtain ⟨Ao35,co35,eo35⟩:=Kd.R_slice HO139.out; subst eo35)|((with_reducible refine gate_callee (f:=80) rfl ?_); refine goesL_ (some 25) rfl rfl Tryd.func80 (by kernel_rfl) rfl #[.slice Ao35 t137.length co35,.slice Ao35 t137.length co35] rfl (by (try simp only [zm]); first|done|rfl|(simp only [zl]; rfl)) ?_; (with_reducible refine (legateref02_times.calls k2 _ _ t137 _ _ t137 t140 _ ?side1 ?side2 ?side3 ?side4 A11.out).mono ?_); (case side1=>repeat (first|exact (Kd.R_reads' HO139.out).2.2|(with_reducible refine Kd.C_alloc ?_ _)|(with_reducible refine Kd.C_drewN ?_ _)|(with_reducible refine Kd.C_drew ?_))); (case side2=>exact (Kd.R_reads' HO139.out).2.1); (case side3=>repeat (first|exact (Kd.R_reads' HO139.out).2.2|(with_reducible refine Kd.C_alloc ?_ _)|(with_reducible refine Kd.C_drewN ?_ _)|(with_reducible refine Kd.C_drew ?_))); (case side4=>exact (Kd.R_reads' HO139.out).2.1); rintro e w36 ⟨v141,rfl,ho0,hb⟩; refine ⟨_,rfl,?_⟩; have n0_:=zK (Kd.R_elder' (by (with_reducible repeat (first|apply Kd.R_alloc|apply Kd.R_drewN|apply Kd.R_drew)); exact HO_5.out) (Kd.R_base ho0) hb); have n1_:=zK (Kd.R_elder' (by (with_reducible repeat (first|apply Kd.R_alloc|apply Kd.R_drewN|apply Kd.R_drew)); exact HO139.out) (Kd.R_base ho0) hb); have n2_:=zK (Kd.R_lower (Kd.R_new' (Kd.R_new' ho0 (Kd.R_lt (by (with_reducible repeat (first|apply Kd.R_alloc|apply Kd.R_drewN|apply Kd.R_drew)); exact HO_5.out))) (Kd.R_lt (by (with_reducible repeat (first|apply Kd.R_alloc|apply Kd.R_drewN|apply Kd.R_drew)); exact HO139.out))) (below_size (by repeat (first|(with_reducible first|exact HB.out|apply zA|apply zN|apply zD)|exact HB.out)))); have n3_:=zK (below_step (by repeat (first|(with_reducible first|exact HB.out|apply zA|apply zN|apply zD)|exact HB.out)) hb); clear HO_5; clear HO139; clear HB; have HO_5:=n0_; have HO139:=n1_; have HO142:=n2_; have HB:=n3_; clear n0_ n1_ n2_ n3_; (try clear hb); (try clear hb2); (try clear hk); (try clear hi); (try clear ho0); obtain ⟨Ao37,co37,eo37⟩:=Kd.R_slice HO142.out; subst eo37; obtain ⟨Ao38,co38,eo38⟩:=Kd.R_slice HO_5.out; subst eo38)|((with_reducible refine gate_callee (f:=81) rfl ?_); refine goesL_ (some 32) rfl rfl Tryd.func81 (by kernel_rfl) rfl #[.slice Ao37 t140.length co37,.slice Ao38 x5_2.length co38] rfl (by (try simp only [zm]); first|done|rfl|(simp only [zl]; rfl)) ?_; (with_reducible refine (legateref02_above.calls k2 _ _ t140 _ _ x5_2 true _ ?side1 ?side2 ?side3 ?side4 A32.out).mono ?_); (case side1=>repeat (first|exact (Kd.R_reads' HO142.out).2.2|(with_reducible refine Kd.C_alloc ?_ _)|(with_reducible refine Kd.C_drewN ?_ _)|(with_reducible refine Kd.C_drew ?_))); (case side2=>exact (Kd.R_reads' HO142.out).2.1); (case side3=>repeat (first|exact (Kd.R_reads' HO_5.out).2.2|(with_reducible refine Kd.C_alloc ?_ _)|(with_reducible refine Kd.C_drewN ?_ _)|(with_reducible refine Kd.C_drew ?_))); (case side4=>exact (Kd.R_reads' HO_5.out).2.1); rintro e w39 ⟨rfl,hb⟩; refine ⟨_,rfl,?_⟩; have n0_:=zK (Kd.R_below (by (with_reducible repeat (first|apply Kd.R_alloc|apply Kd.R_drewN|apply Kd.R_drew)); exact HO_5.out) hb); have n1_:=zK (Kd.R_below (by (with_reducible repeat (first|apply Kd.R_alloc|apply Kd.R_drewN|apply Kd.R_drew)); exact HO139.out) hb); have n2_:=zK (Kd.R_below (by (with_reducible repeat (first|apply Kd.R_alloc|apply Kd.R_drewN|apply Kd.R_drew)); exact HO142.out) hb); have n3_:=zK (below_step (by repeat (first|(with_reducible first|exact HB.out|apply zA|apply zN|apply zD)|exact HB.out)) hb); clear HO_5; clear HO139; clear HO142; clear HB; have HO_5:=n0_; have HO139:=n1_; have HO142:=n2_; have HB:=n3_; clear n0_ n1_ n2_ n3_; (try clear hb); (try clear hb2); (try clear hk); (try clear hi)))
       go_roundg k2
       case measure=>have:=HJ2.out; have:=HK2.out; omega
       case rel=>exact ⟨(x6_2),(wrap64 (Int.tdiv x7_2 2)),(by first|rfl|(simp; done)|(simp [*]; done)),(by first|rfl|(simp; done)|(simp [*]; done)),H',⟨by have:=HJ2.out; have:=HK2.out; omega⟩,⟨by (with_reducible repeat (first|apply Kd.R_alloc|apply Kd.R_drewN|apply Kd.R_drew)); exact Kd.R_mono HO_5.out (fun _ hk=>trivial)⟩,⟨by repeat (first|(with_reducible first|exact HB.out|apply zA|apply zN|apply zD)|exact HB.out)⟩⟩
      replace c33:=Bool.eq_false_iff.mpr c33
      subst c33
      have H1:(legateref02_root.l0 k2 false x5_2 (wrap64 (x6_2+x7_2)) (wrap64 (Int.tdiv x7_2 2)))=some r:=by rw [if_neg (show ¬ (false=true) by decide)] at H; exact H
      clear H
      have H:=H1
      clear H1
      have H':=zK H
      clear H
      go_wp2_with (first|((with_reducible refine gate_callee (f:=79) rfl ?_); refine goesL_ (some 22) rfl rfl Tryd.func79 (by kernel_rfl) rfl #[.int .i64 (wrap64 (x6_2+x7_2))] rfl (by (try simp only [zm]); first|done|rfl|(simp only [zl]; rfl)) ?_; (with_reducible refine (legateref02_digits.calls (wrap64 (x6_2+x7_2)) t137 _ A10.out).mono ?_); rintro e w40 ⟨v138,rfl,ho0,hb⟩; refine ⟨_,rfl,?_⟩; have n0_:=zK (Kd.R_elder' (by (with_reducible repeat (first|apply Kd.R_alloc|apply Kd.R_drewN|apply Kd.R_drew)); exact HO_5.out) (Kd.R_base ho0) hb); have n1_:=zK (Kd.R_lower (Kd.R_new' ho0 (Kd.R_lt (by (with_reducible repeat (first|apply Kd.R_alloc|apply Kd.R_drewN|apply Kd.R_drew)); exact HO_5.out))) (below_size (by repeat (first|(with_reducible first|exact HB.out|apply zA|apply zN|apply zD)|exact HB.out)))); have n2_:=zK (below_step (by repeat (first|(with_reducible first|exact HB.out|apply zA|apply zN|apply zD)|exact HB.out)) hb); clear HO_5; clear HB; have HO_5:=n0_; have HO139:=n1_; have HB:=n2_; clear n0_ n1_ n2_; (try clear hb); (try clear hb2); (try clear hk); (try clear hi); (try clear ho0); obtain ⟨Ao41,co41,eo41⟩:=Kd.R_slice HO139.out; subst eo41)|((with_reducible refine gate_callee (f:=80) rfl ?_); refine goesL_ (some 25) rfl rfl Tryd.func80 (by kernel_rfl) rfl #[.slice Ao41 t137.length co41,.slice Ao41 t137.length co41] rfl (by (try simp only [zm]); first|done|rfl|(simp only [zl]; rfl)) ?_; (with_reducible refine (legateref02_times.calls k2 _ _ t137 _ _ t137 t140 _ ?side1 ?side2 ?side3 ?side4 A11.out).mono ?_); (case side1=>repeat (first|exact (Kd.R_reads' HO139.out).2.2|(with_reducible refine Kd.C_alloc ?_ _)|(with_reducible refine Kd.C_drewN ?_ _)|(with_reducible refine Kd.C_drew ?_))); (case side2=>exact (Kd.R_reads' HO139.out).2.1); (case side3=>repeat (first|exact (Kd.R_reads' HO139.out).2.2|(with_reducible refine Kd.C_alloc ?_ _)|(with_reducible refine Kd.C_drewN ?_ _)|(with_reducible refine Kd.C_drew ?_))); (case side4=>exact (Kd.R_reads' HO139.out).2.1); rintro e w42 ⟨v141,rfl,ho0,hb⟩; refine ⟨_,rfl,?_⟩; have n0_:=zK (Kd.R_elder' (by (with_reducible repeat (first|apply Kd.R_alloc|apply Kd.R_drewN|apply Kd.R_drew)); exact HO_5.out) (Kd.R_base ho0) hb); have n1_:=zK (Kd.R_elder' (by (with_reducible repeat (first|apply Kd.R_alloc|apply Kd.R_drewN|apply Kd.R_drew)); exact HO139.out) (Kd.R_base ho0) hb); have n2_:=zK (Kd.R_lower (Kd.R_new' (Kd.R_new' ho0 (Kd.R_lt (by (with_reducible repeat (first|apply Kd.R_alloc|apply Kd.R_drewN|apply Kd.R_drew)); exact HO_5.out))) (Kd.R_lt (by (with_reducible repeat (first|apply Kd.R_alloc|apply Kd.R_drewN|apply Kd.R_drew)); exact HO139.out))) (below_size (by repeat (first|(with_reducible first|exact HB.out|apply zA|apply zN|apply zD)|exact HB.out)))); have n3_:=zK (below_step (by repeat (first|(with_reducible first|exact HB.out|apply zA|apply zN|apply zD)|exact HB.out)) hb); clear HO_5; clear HO139; clear HB; have HO_5:=n0_; have HO139:=n1_; have HO142:=n2_; have HB:=n3_; clear n0_ n1_ n2_ n3_; (try clear hb); (try clear hb2); (try clear hk); (try clear hi); (try clear ho0); obtain ⟨Ao43,co43,eo43⟩:=Kd.R_slice HO142.out; subst eo43; obtain ⟨Ao44,co44,eo44⟩:=Kd.R_slice HO_5.out; subst eo44)|((with_reducible refine gate_callee (f:=81) rfl ?_); refine goesL_ (some 32) rfl rfl Tryd.func81 (by kernel_rfl) rfl #[.slice Ao43 t140.length co43,.slice Ao44 x5_2.length co44] rfl (by (try simp only [zm]); first|done|rfl|(simp only [zl]; rfl)) ?_; (with_reducible refine (legateref02_above.calls k2 _ _ t140 _ _ x5_2 false _ ?side1 ?side2 ?side3 ?side4 A32.out).mono ?_); (case side1=>repeat (first|exact (Kd.R_reads' HO142.out).2.2|(with_reducible refine Kd.C_alloc ?_ _)|(with_reducible refine Kd.C_drewN ?_ _)|(with_reducible refine Kd.C_drew ?_))); (case side2=>exact (Kd.R_reads' HO142.out).2.1); (case side3=>repeat (first|exact (Kd.R_reads' HO_5.out).2.2|(with_reducible refine Kd.C_alloc ?_ _)|(with_reducible refine Kd.C_drewN ?_ _)|(with_reducible refine Kd.C_drew ?_))); (case side4=>exact (Kd.R_reads' HO_5.out).2.1); rintro e w45 ⟨rfl,hb⟩; refine ⟨_,rfl,?_⟩; have n0_:=zK (Kd.R_below (by (with_reducible repeat (first|apply Kd.R_alloc|apply Kd.R_drewN|apply Kd.R_drew)); exact HO_5.out) hb); have n1_:=zK (Kd.R_below (by (with_reducible repeat (first|apply Kd.R_alloc|apply Kd.R_drewN|apply Kd.R_drew)); exact HO139.out) hb); have n2_:=zK (Kd.R_below (by (with_reducible repeat (first|apply Kd.R_alloc|apply Kd.R_drewN|apply Kd.R_drew)); exact HO142.out) hb); have n3_:=zK (below_step (by repeat (first|(with_reducible first|exact HB.out|apply zA|apply zN|apply zD)|exact HB.out)) hb); clear HO_5; clear HO139; clear HO142; clear HB; have HO_5:=n0_; have HO139:=n1_; have HO142:=n2_; have HB:=n3_; clear n0_ n1_ n2_ n3_; (try clear hb); (try clear hb2); (try clear hk); (try clear hi)))
      go_roundg k2
      case measure=>have:=HJ2.out; have:=HK2.out; omega
      case rel=>exact ⟨(wrap64 (x6_2+x7_2)),(wrap64 (Int.tdiv x7_2 2)),(by first|rfl|(simp; done)|(simp [*]; done)),(by first|rfl|(simp; done)|(simp [*]; done)),H',⟨by have:=HJ2.out; have:=HK2.out; omega⟩,⟨by (with_reducible repeat (first|apply Kd.R_alloc|apply Kd.R_drewN|apply Kd.R_drew)); exact Kd.R_mono HO_5.out (fun _ hk=>trivial)⟩,⟨by repeat (first|(with_reducible first|exact HB.out|apply zA|apply zN|apply zD)|exact HB.out)⟩⟩
     subst c12
     have H1:((legateref02_times.f k2 t140 t137).bind fun t143=>((legateref02_above.f k2 t143 x5_2).bind fun t146=>(if t146=true then (legateref02_root.l0 k2 true x5_2 x6_2 (wrap64 (Int.tdiv x7_2 2))) else (legateref02_root.l0 k2 true x5_2 (wrap64 (x6_2+x7_2)) (wrap64 (Int.tdiv x7_2 2))))))=some r:=by rw [if_pos rfl] at H; exact H
     clear H
     have H:=H1
     clear H1
     replace H:=Option.bind_eq_some_iff.mp H
     obtain ⟨t143,A130,H⟩:=H
     replace H:((legateref02_above.f k2 t143 x5_2).bind fun t146=>(if t146=true then (legateref02_root.l0 k2 true x5_2 x6_2 (wrap64 (Int.tdiv x7_2 2))) else (legateref02_root.l0 k2 true x5_2 (wrap64 (x6_2+x7_2)) (wrap64 (Int.tdiv x7_2 2)))))=some r:=H
     have A13:=zK A130
     clear A130
     replace H:=Option.bind_eq_some_iff.mp H
     obtain ⟨t146,A140,H⟩:=H
     replace H:(if t146=true then (legateref02_root.l0 k2 true x5_2 x6_2 (wrap64 (Int.tdiv x7_2 2))) else (legateref02_root.l0 k2 true x5_2 (wrap64 (x6_2+x7_2)) (wrap64 (Int.tdiv x7_2 2))))=some r:=H
     have A14:=zK A140
     clear A140
     by_cases c15:t146=true
     case pos =>
      subst c15
      have H1:(legateref02_root.l0 k2 true x5_2 x6_2 (wrap64 (Int.tdiv x7_2 2)))=some r:=by rw [if_pos rfl] at H; exact H
      clear H
      have H:=H1
      clear H1
      have H':=zK H
      clear H
      go_wp2_with (first|((with_reducible refine gate_callee (f:=79) rfl ?_); refine goesL_ (some 22) rfl rfl Tryd.func79 (by kernel_rfl) rfl #[.int .i64 (wrap64 (x6_2+x7_2))] rfl (by (try simp only [zm]); first|done|rfl|(simp only [zl]; rfl)) ?_; (with_reducible refine (legateref02_digits.calls (wrap64 (x6_2+x7_2)) t137 _ A10.out).mono ?_); rintro e w16 ⟨v138,rfl,ho0,hb⟩; refine ⟨_,rfl,?_⟩; have n0_:=zK (Kd.R_elder' (by (with_reducible repeat (first|apply Kd.R_alloc|apply Kd.R_drewN|apply Kd.R_drew)); exact HO_5.out) (Kd.R_base ho0) hb); have n1_:=zK (Kd.R_lower (Kd.R_new' ho0 (Kd.R_lt (by (with_reducible repeat (first|apply Kd.R_alloc|apply Kd.R_drewN|apply Kd.R_drew)); exact HO_5.out))) (below_size (by repeat (first|(with_reducible first|exact HB.out|apply zA|apply zN|apply zD)|exact HB.out)))); have n2_:=zK (below_step (by repeat (first|(with_reducible first|exact HB.out|apply zA|apply zN|apply zD)|exact HB.out)) hb); clear HO_5; clear HB; have HO_5:=n0_; have HO139:=n1_; have HB:=n2_; clear n0_ n1_ n2_; (try clear hb); (try clear hb2); (try clear hk); (try clear hi); (try clear ho0); obtain ⟨Ao17,co17,eo17⟩:=Kd.R_slice HO139.out; subst eo17)|((with_reducible refine gate_callee (f:=80) rfl ?_); refine goesL_ (some 25) rfl rfl Tryd.func80 (by kernel_rfl) rfl #[.slice Ao17 t137.length co17,.slice Ao17 t137.length co17] rfl (by (try simp only [zm]); first|done|rfl|(simp only [zl]; rfl)) ?_; (with_reducible refine (legateref02_times.calls k2 _ _ t137 _ _ t137 t140 _ ?side1 ?side2 ?side3 ?side4 A11.out).mono ?_); (case side1=>repeat (first|exact (Kd.R_reads' HO139.out).2.2|(with_reducible refine Kd.C_alloc ?_ _)|(with_reducible refine Kd.C_drewN ?_ _)|(with_reducible refine Kd.C_drew ?_))); (case side2=>exact (Kd.R_reads' HO139.out).2.1); (case side3=>repeat (first|exact (Kd.R_reads' HO139.out).2.2|(with_reducible refine Kd.C_alloc ?_ _)|(with_reducible refine Kd.C_drewN ?_ _)|(with_reducible refine Kd.C_drew ?_))); (case side4=>exact (Kd.R_reads' HO139.out).2.1); rintro e w18 ⟨v141,rfl,ho0,hb⟩; refine ⟨_,rfl,?_⟩; have n0_:=zK (Kd.R_elder' (by (with_reducible repeat (first|apply Kd.R_alloc|apply Kd.R_drewN|apply Kd.R_drew)); exact HO_5.out) (Kd.R_base ho0) hb); have n1_:=zK (Kd.R_elder' (by (with_reducible repeat (first|apply Kd.R_alloc|apply Kd.R_drewN|apply Kd.R_drew)); exact HO139.out) (Kd.R_base ho0) hb); have n2_:=zK (Kd.R_lower (Kd.R_new' (Kd.R_new' ho0 (Kd.R_lt (by (with_reducible repeat (first|apply Kd.R_alloc|apply Kd.R_drewN|apply Kd.R_drew)); exact HO_5.out))) (Kd.R_lt (by (with_reducible repeat (first|apply Kd.R_alloc|apply Kd.R_drewN|apply Kd.R_drew)); exact HO139.out))) (below_size (by repeat (first|(with_reducible first|exact HB.out|apply zA|apply zN|apply zD)|exact HB.out)))); have n3_:=zK (below_step (by repeat (first|(with_reducible first|exact HB.out|apply zA|apply zN|apply zD)|exact HB.out)) hb); clear HO_5; clear HO139; clear HB; have HO_5:=n0_; have HO139:=n1_; have HO142:=n2_; have HB:=n3_; clear n0_ n1_ n2_ n3_; (try clear hb); (try clear hb2); (try clear hk); (try clear hi); (try clear ho0); obtain ⟨Ao19,co19,eo19⟩:=Kd.R_slice HO142.out; subst eo19)|((with_reducible refine gate_callee (f:=80) rfl ?_); refine goesL_ (some 29) rfl rfl Tryd.func80 (by kernel_rfl) rfl #[.slice Ao19 t140.length co19,.slice Ao17 t137.length co17] rfl (by (try simp only [zm]); first|done|rfl|(simp only [zl]; rfl)) ?_; (with_reducible refine (legateref02_times.calls k2 _ _ t140 _ _ t137 t143 _ ?side1 ?side2 ?side3 ?side4 A13.out).mono ?_); (case side1=>repeat (first|exact (Kd.R_reads' HO142.out).2.2|(with_reducible refine Kd.C_alloc ?_ _)|(with_reducible refine Kd.C_drewN ?_ _)|(with_reducible refine Kd.C_drew ?_))); (case side2=>exact (Kd.R_reads' HO142.out).2.1); (case side3=>repeat (first|exact (Kd.R_reads' HO139.out).2.2|(with_reducible refine Kd.C_alloc ?_ _)|(with_reducible refine Kd.C_drewN ?_ _)|(with_reducible refine Kd.C_drew ?_))); (case side4=>exact (Kd.R_reads' HO139.out).2.1); rintro e w20 ⟨v144,rfl,ho0,hb⟩; refine ⟨_,rfl,?_⟩; have n0_:=zK (Kd.R_elder' (by (with_reducible repeat (first|apply Kd.R_alloc|apply Kd.R_drewN|apply Kd.R_drew)); exact HO_5.out) (Kd.R_base ho0) hb); have n1_:=zK (Kd.R_elder' (by (with_reducible repeat (first|apply Kd.R_alloc|apply Kd.R_drewN|apply Kd.R_drew)); exact HO139.out) (Kd.R_base ho0) hb); have n2_:=zK (Kd.R_elder' (by (with_reducible repeat (first|apply Kd.R_alloc|apply Kd.R_drewN|apply Kd.R_drew)); exact HO142.out) (Kd.R_base ho0) hb); have n3_:=zK (Kd.R_lower (Kd.R_new' (Kd.R_new' (Kd.R_new' ho0 (Kd.R_lt (by (with_reducible repeat (first|apply Kd.R_alloc|apply Kd.R_drewN|apply Kd.R_drew)); exact HO_5.out))) (Kd.R_lt (by (with_reducible repeat (first|apply Kd.R_alloc|apply Kd.R_drewN|apply Kd.R_drew)); exact HO139.out))) (Kd.R_lt (by (with_reducible repeat (first|apply Kd.R_alloc|apply Kd.R_drewN|apply Kd.R_drew)); exact HO142.out))) (below_size (by repeat (first|(with_reducible first|exact HB.out|apply zA|apply zN|apply zD)|exact HB.out)))); have n4_:=zK (below_step (by repeat (first|(with_reducible first|exact HB.out|apply zA|apply zN|apply zD)|exact HB.out)) hb); clear HO_5; clear HO139; clear HO142; clear HB; have HO_5:=n0_; have HO139:=n1_; have HO142:=n2_; have HO145:=n3_; have HB:=n4_; clear n0_ n1_ n2_ n3_ n4_; (try clear hb); (try clear hb2); (try clear hk); (try clear hi); (try clear ho0); obtain ⟨Ao21,co21,eo21⟩:=Kd.R_slice HO145.out; subst eo21; obtain ⟨Ao22,co22,eo22⟩:=Kd.R_slice HO_5.out; subst eo22)|((with_reducible refine gate_callee (f:=81) rfl ?_); refine goesL_ (some 32) rfl rfl Tryd.func81 (by kernel_rfl) rfl #[.slice Ao21 t143.length co21,.slice Ao22 x5_2.length co22] rfl (by (try simp only [zm]); first|done|rfl|(simp only [zl]; rfl)) ?_; (with_reducible refine (legateref02_above.calls k2 _ _ t143 _ _ x5_2 true _ ?side1 ?side2 ?side3 ?side4 A14.out).mono ?_); (case side1=>repeat (first|exact (Kd.R_reads' HO145.out).2.2|(with_reducible refine Kd.C_alloc ?_ _)|(with_reducible refine Kd.C_drewN ?_ _)|(with_reducible refine Kd.C_drew ?_))); (case side2=>exact (Kd.R_reads' HO145.out).2.1); (case side3=>repeat (first|exact (Kd.R_reads' HO_5.out).2.2|(with_reducible refine Kd.C_alloc ?_ _)|(with_reducible refine Kd.C_drewN ?_ _)|(with_reducible refine Kd.C_drew ?_))); (case side4=>exact (Kd.R_reads' HO_5.out).2.1); rintro e w23 ⟨rfl,hb⟩; refine ⟨_,rfl,?_⟩; have n0_:=zK (Kd.R_below (by (with_reducible repeat (first|apply Kd.R_alloc|apply Kd.R_drewN|apply Kd.R_drew)); exact HO_5.out) hb); have n1_:=zK (Kd.R_below (by (with_reducible repeat (first|apply Kd.R_alloc|apply Kd.R_drewN|apply Kd.R_drew)); exact HO139.out) hb); have n2_:=zK (Kd.R_below (by (with_reducible repeat (first|apply Kd.R_alloc|apply Kd.R_drewN|apply Kd.R_drew)); exact HO142.out) hb); have n3_:=zK (Kd.R_below (by (with_reducible repeat (first|apply Kd.R_alloc|apply Kd.R_drewN|apply Kd.R_drew)); exact HO145.out) hb); have n4_:=zK (below_step (by repeat (first|(with_reducible first|exact HB.out|apply zA|apply zN|apply zD)|exact HB.out)) hb); clear HO_5; clear HO139; clear HO142; clear HO145; clear HB; have HO_5:=n0_; have HO139:=n1_; have HO142:=n2_; have HO145:=n3_; have HB:=n4_; clear n0_ n1_ n2_ n3_ n4_; (try clear hb); (try clear hb2); (try clear hk); (try clear hi)))
      go_roundg k2
      case measure=>have:=HJ2.out; have:=HK2.out; omega
      case rel=>exact ⟨(x6_2),(wrap64 (Int.tdiv x7_2 2)),(by first|rfl|(simp; done)|(simp [*]; done)),(by first|rfl|(simp; done)|(simp [*]; done)),H',⟨by have:=HJ2.out; have:=HK2.out; omega⟩,⟨by (with_reducible repeat (first|apply Kd.R_alloc|apply Kd.R_drewN|apply Kd.R_drew)); exact Kd.R_mono HO_5.out (fun _ hk=>trivial)⟩,⟨by repeat (first|(with_reducible first|exact HB.out|apply zA|apply zN|apply zD)|exact HB.out)⟩⟩
     replace c15:=Bool.eq_false_iff.mpr c15
     subst c15
     have H1:(legateref02_root.l0 k2 true x5_2 (wrap64 (x6_2+x7_2)) (wrap64 (Int.tdiv x7_2 2)))=some r:=by rw [if_neg (show ¬ (false=true) by decide)] at H; exact H
     clear H
     have H:=H1
     clear H1
     have H':=zK H
     clear H
     go_wp2_with (first|((with_reducible refine gate_callee (f:=79) rfl ?_); refine goesL_ (some 22) rfl rfl Tryd.func79 (by kernel_rfl) rfl #[.int .i64 (wrap64 (x6_2+x7_2))] rfl (by (try simp only [zm]); first|done|rfl|(simp only [zl]; rfl)) ?_; (with_reducible refine (legateref02_digits.calls (wrap64 (x6_2+x7_2)) t137 _ A10.out).mono ?_); rintro e w24 ⟨v138,rfl,ho0,hb⟩; refine ⟨_,rfl,?_⟩; have n0_:=zK (Kd.R_elder' (by (with_reducible repeat (first|apply Kd.R_alloc|apply Kd.R_drewN|apply Kd.R_drew)); exact HO_5.out) (Kd.R_base ho0) hb); have n1_:=zK (Kd.R_lower (Kd.R_new' ho0 (Kd.R_lt (by (with_reducible repeat (first|apply Kd.R_alloc|apply Kd.R_drewN|apply Kd.R_drew)); exact HO_5.out))) (below_size (by repeat (first|(with_reducible first|exact HB.out|apply zA|apply zN|apply zD)|exact HB.out)))); have n2_:=zK (below_step (by repeat (first|(with_reducible first|exact HB.out|apply zA|apply zN|apply zD)|exact HB.out)) hb); clear HO_5; clear HB; have HO_5:=n0_; have HO139:=n1_; have HB:=n2_; clear n0_ n1_ n2_; (try clear hb); (try clear hb2); (try clear hk); (try clear hi); (try clear ho0); obtain ⟨Ao25,co25,eo25⟩:=Kd.R_slice HO139.out; subst eo25)|((with_reducible refine gate_callee (f:=80) rfl ?_); refine goesL_ (some 25) rfl rfl Tryd.func80 (by kernel_rfl) rfl #[.slice Ao25 t137.length co25,.slice Ao25 t137.length co25] rfl (by (try simp only [zm]); first|done|rfl|(simp only [zl]; rfl)) ?_; (with_reducible refine (legateref02_times.calls k2 _ _ t137 _ _ t137 t140 _ ?side1 ?side2 ?side3 ?side4 A11.out).mono ?_); (case side1=>repeat (first|exact (Kd.R_reads' HO139.out).2.2|(with_reducible refine Kd.C_alloc ?_ _)|(with_reducible refine Kd.C_drewN ?_ _)|(with_reducible refine Kd.C_drew ?_))); (case side2=>exact (Kd.R_reads' HO139.out).2.1); (case side3=>repeat (first|exact (Kd.R_reads' HO139.out).2.2|(with_reducible refine Kd.C_alloc ?_ _)|(with_reducible refine Kd.C_drewN ?_ _)|(with_reducible refine Kd.C_drew ?_))); (case side4=>exact (Kd.R_reads' HO139.out).2.1); rintro e w26 ⟨v141,rfl,ho0,hb⟩; refine ⟨_,rfl,?_⟩; have n0_:=zK (Kd.R_elder' (by (with_reducible repeat (first|apply Kd.R_alloc|apply Kd.R_drewN|apply Kd.R_drew)); exact HO_5.out) (Kd.R_base ho0) hb); have n1_:=zK (Kd.R_elder' (by (with_reducible repeat (first|apply Kd.R_alloc|apply Kd.R_drewN|apply Kd.R_drew)); exact HO139.out) (Kd.R_base ho0) hb); have n2_:=zK (Kd.R_lower (Kd.R_new' (Kd.R_new' ho0 (Kd.R_lt (by (with_reducible repeat (first|apply Kd.R_alloc|apply Kd.R_drewN|apply Kd.R_drew)); exact HO_5.out))) (Kd.R_lt (by (with_reducible repeat (first|apply Kd.R_alloc|apply Kd.R_drewN|apply Kd.R_drew)); exact HO139.out))) (below_size (by repeat (first|(with_reducible first|exact HB.out|apply zA|apply zN|apply zD)|exact HB.out)))); have n3_:=zK (below_step (by repeat (first|(with_reducible first|exact HB.out|apply zA|apply zN|apply zD)|exact HB.out)) hb); clear HO_5; clear HO139; clear HB; have HO_5:=n0_; have HO139:=n1_; have HO142:=n2_; have HB:=n3_; clear n0_ n1_ n2_ n3_; (try clear hb); (try clear hb2); (try clear hk); (try clear hi); (try clear ho0); obtain ⟨Ao27,co27,eo27⟩:=Kd.R_slice HO142.out; subst eo27)|((with_reducible refine gate_callee (f:=80) rfl ?_); refine goesL_ (some 29) rfl rfl Tryd.func80 (by kernel_rfl) rfl #[.slice Ao27 t140.length co27,.slice Ao25 t137.length co25] rfl (by (try simp only [zm]); first|done|rfl|(simp only [zl]; rfl)) ?_; (with_reducible refine (legateref02_times.calls k2 _ _ t140 _ _ t137 t143 _ ?side1 ?side2 ?side3 ?side4 A13.out).mono ?_); (case side1=>repeat (first|exact (Kd.R_reads' HO142.out).2.2|(with_reducible refine Kd.C_alloc ?_ _)|(with_reducible refine Kd.C_drewN ?_ _)|(with_reducible refine Kd.C_drew ?_))); (case side2=>exact (Kd.R_reads' HO142.out).2.1); (case side3=>repeat (first|exact (Kd.R_reads' HO139.out).2.2|(with_reducible refine Kd.C_alloc ?_ _)|(with_reducible refine Kd.C_drewN ?_ _)|(with_reducible refine Kd.C_drew ?_))); (case side4=>exact (Kd.R_reads' HO139.out).2.1); rintro e w28 ⟨v144,rfl,ho0,hb⟩; refine ⟨_,rfl,?_⟩; have n0_:=zK (Kd.R_elder' (by (with_reducible repeat (first|apply Kd.R_alloc|apply Kd.R_drewN|apply Kd.R_drew)); exact HO_5.out) (Kd.R_base ho0) hb); have n1_:=zK (Kd.R_elder' (by (with_reducible repeat (first|apply Kd.R_alloc|apply Kd.R_drewN|apply Kd.R_drew)); exact HO139.out) (Kd.R_base ho0) hb); have n2_:=zK (Kd.R_elder' (by (with_reducible repeat (first|apply Kd.R_alloc|apply Kd.R_drewN|apply Kd.R_drew)); exact HO142.out) (Kd.R_base ho0) hb); have n3_:=zK (Kd.R_lower (Kd.R_new' (Kd.R_new' (Kd.R_new' ho0 (Kd.R_lt (by (with_reducible repeat (first|apply Kd.R_alloc|apply Kd.R_drewN|apply Kd.R_drew)); exact HO_5.out))) (Kd.R_lt (by (with_reducible repeat (first|apply Kd.R_alloc|apply Kd.R_drewN|apply Kd.R_drew)); exact HO139.out))) (Kd.R_lt (by (with_reducible repeat (first|apply Kd.R_alloc|apply Kd.R_drewN|apply Kd.R_drew)); exact HO142.out))) (below_size (by repeat (first|(with_reducible first|exact HB.out|apply zA|apply zN|apply zD)|exact HB.out)))); have n4_:=zK (below_step (by repeat (first|(with_reducible first|exact HB.out|apply zA|apply zN|apply zD)|exact HB.out)) hb); clear HO_5; clear HO139; clear HO142; clear HB; have HO_5:=n0_; have HO139:=n1_; have HO142:=n2_; have HO145:=n3_; have HB:=n4_; clear n0_ n1_ n2_ n3_ n4_; (try clear hb); (try clear hb2); (try clear hk); (try clear hi); (try clear ho0); obtain ⟨Ao29,co29,eo29⟩:=Kd.R_slice HO145.out; subst eo29; obtain ⟨Ao30,co30,eo30⟩:=Kd.R_slice HO_5.out; subst eo30)|((with_reducible refine gate_callee (f:=81) rfl ?_); refine goesL_ (some 32) rfl rfl Tryd.func81 (by kernel_rfl) rfl #[.slice Ao29 t143.length co29,.slice Ao30 x5_2.length co30] rfl (by (try simp only [zm]); first|done|rfl|(simp only [zl]; rfl)) ?_; (with_reducible refine (legateref02_above.calls k2 _ _ t143 _ _ x5_2 false _ ?side1 ?side2 ?side3 ?side4 A14.out).mono ?_); (case side1=>repeat (first|exact (Kd.R_reads' HO145.out).2.2|(with_reducible refine Kd.C_alloc ?_ _)|(with_reducible refine Kd.C_drewN ?_ _)|(with_reducible refine Kd.C_drew ?_))); (case side2=>exact (Kd.R_reads' HO145.out).2.1); (case side3=>repeat (first|exact (Kd.R_reads' HO_5.out).2.2|(with_reducible refine Kd.C_alloc ?_ _)|(with_reducible refine Kd.C_drewN ?_ _)|(with_reducible refine Kd.C_drew ?_))); (case side4=>exact (Kd.R_reads' HO_5.out).2.1); rintro e w31 ⟨rfl,hb⟩; refine ⟨_,rfl,?_⟩; have n0_:=zK (Kd.R_below (by (with_reducible repeat (first|apply Kd.R_alloc|apply Kd.R_drewN|apply Kd.R_drew)); exact HO_5.out) hb); have n1_:=zK (Kd.R_below (by (with_reducible repeat (first|apply Kd.R_alloc|apply Kd.R_drewN|apply Kd.R_drew)); exact HO139.out) hb); have n2_:=zK (Kd.R_below (by (with_reducible repeat (first|apply Kd.R_alloc|apply Kd.R_drewN|apply Kd.R_drew)); exact HO142.out) hb); have n3_:=zK (Kd.R_below (by (with_reducible repeat (first|apply Kd.R_alloc|apply Kd.R_drewN|apply Kd.R_drew)); exact HO145.out) hb); have n4_:=zK (below_step (by repeat (first|(with_reducible first|exact HB.out|apply zA|apply zN|apply zD)|exact HB.out)) hb); clear HO_5; clear HO139; clear HO142; clear HO145; clear HB; have HO_5:=n0_; have HO139:=n1_; have HO142:=n2_; have HO145:=n3_; have HB:=n4_; clear n0_ n1_ n2_ n3_ n4_; (try clear hb); (try clear hb2); (try clear hk); (try clear hi)))
     go_roundg k2
     case measure=>have:=HJ2.out; have:=HK2.out; omega
     case rel=>exact ⟨(wrap64 (x6_2+x7_2)),(wrap64 (Int.tdiv x7_2 2)),(by first|rfl|(simp; done)|(simp [*]; done)),(by first|rfl|(simp; done)|(simp [*]; done)),H',⟨by have:=HJ2.out; have:=HK2.out; omega⟩,⟨by (with_reducible repeat (first|apply Kd.R_alloc|apply Kd.R_drewN|apply Kd.R_drew)); exact Kd.R_mono HO_5.out (fun _ hk=>trivial)⟩,⟨by repeat (first|(with_reducible first|exact HB.out|apply zA|apply zN|apply zD)|exact HB.out)⟩⟩
end Go.Proofs.YtkgijkfcmbpgpaaDoor.PAll
end
