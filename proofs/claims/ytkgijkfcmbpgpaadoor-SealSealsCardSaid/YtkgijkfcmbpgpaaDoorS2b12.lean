import Derived.Test.YtkgijkfcmbpgpaaDoorS2b0
import Derived.Test.YtkgijkfcmbpgpaaDoorS2b1
import Derived.Test.YtkgijkfcmbpgpaaDoorS2b11
import Derived.Test.YtkgijkfcmbpgpaaDoorS2b2
section
namespace Go.Proofs.YtkgijkfcmbpgpaaDoor.PAll
open Go.RowKit Go.Proofs.YtkgijkfcmbpgpaaDoorW.PrintWords Go.Proofs.YtkgijkfcmbpgpaaDoorW.PrintLast Go.Proofs.YtkgijkfcmbpgpaaDoorW.PrintMore
attribute [local go_sem] max2_int min2_int max_two min_two max_three min_three max_four min_four
set_option linter.unusedVariables false
set_option linter.unusedSimpArgs false
mutual
def legateref02_prime.l0:Nat→Int→Int→Int→Option (Int)
  | 0,_,_,_=>none
  | k+1,x0,x3,x4=>legateref02_prime.l1 k x0 x3 x4 true 2
def legateref02_prime.j2:Nat→Int→Int→Int→Bool→Option (Int)
  | 0,_,_,_,_=>none
  | k+1,x0,x3,x4,x5=>if x5=true then (if x4=x0 then (some x3) else (legateref02_prime.l0 k x0 (wrap64 (x3+1)) (wrap64 (x4+1)))) else (legateref02_prime.l0 k x0 (wrap64 (x3+1)) x4)
def legateref02_prime.l1:Nat→Int→Int→Int→Bool→Int→Option (Int)
  | 0,_,_,_,_,_=>none
  | k+1,x0,x3,x4,x5,x6=>if (wrap64 (x6 * x6))≤x3 then (if x5=true then (if x6=0 then (none) else (legateref02_prime.l1 k x0 x3 x4 ((Int.tmod x3 x6) != 0) (wrap64 (x6+1)))) else (legateref02_prime.j2 k x0 x3 x4 x5)) else (legateref02_prime.j2 k x0 x3 x4 x5)
end
def legateref02_prime.f (k:Nat) (a0:Int):Option (Int):=legateref02_prime.l0 k a0 2 0
theorem legateref02_prime.mono_l:∀ k,(∀ y0 y1 y2,LeO (legateref02_prime.l0 k y0 y1 y2) (legateref02_prime.l0 (k+1) y0 y1 y2))∧(∀ y0 y1 y2 y3,LeO (legateref02_prime.j2 k y0 y1 y2 y3) (legateref02_prime.j2 (k+1) y0 y1 y2 y3))∧(∀ y0 y1 y2 y3 y4,LeO (legateref02_prime.l1 k y0 y1 y2 y3 y4) (legateref02_prime.l1 (k+1) y0 y1 y2 y3 y4))
 | 0=>⟨fun _ _ _ r h=>by simp [legateref02_prime.l0] at h,fun _ _ _ _ r h=>by simp [legateref02_prime.j2] at h,fun _ _ _ _ _ r h=>by simp [legateref02_prime.l1] at h⟩
 | k+1=>by
  obtain ⟨ih0,ih1,ih2⟩:=legateref02_prime.mono_l k
  refine ⟨?_,?_,?_⟩
  ·intro y0 y1 y2
   unfold legateref02_prime.l0
   repeat' first
   | (with_reducible exact ih0 _ _ _)
   | (with_reducible exact ih1 _ _ _ _)
   | (with_reducible exact ih2 _ _ _ _ _)
   | (with_reducible exact LeO.refl _)
   | (with_reducible exact LeO.none _)
   | (with_reducible refine LeO.ite ?_ ?_)
   | (with_reducible refine LeO.bind ?_ (fun _=>?_))
   | exact ih0 _ _ _
   | exact ih1 _ _ _ _
   | exact ih2 _ _ _ _ _
   | exact LeO.none _
   | refine LeO.ite ?_ ?_
   | refine LeO.bind ?_ (fun _=>?_)
  ·intro y0 y1 y2 y3
   unfold legateref02_prime.j2
   repeat' first
   | (with_reducible exact ih0 _ _ _)
   | (with_reducible exact ih1 _ _ _ _)
   | (with_reducible exact ih2 _ _ _ _ _)
   | (with_reducible exact LeO.refl _)
   | (with_reducible exact LeO.none _)
   | (with_reducible refine LeO.ite ?_ ?_)
   | (with_reducible refine LeO.bind ?_ (fun _=>?_))
   | exact ih0 _ _ _
   | exact ih1 _ _ _ _
   | exact ih2 _ _ _ _ _
   | exact LeO.none _
   | refine LeO.ite ?_ ?_
   | refine LeO.bind ?_ (fun _=>?_)
  ·intro y0 y1 y2 y3 y4
   unfold legateref02_prime.l1
   repeat' first
   | (with_reducible exact ih0 _ _ _)
   | (with_reducible exact ih1 _ _ _ _)
   | (with_reducible exact ih2 _ _ _ _ _)
   | (with_reducible exact LeO.refl _)
   | (with_reducible exact LeO.none _)
   | (with_reducible refine LeO.ite ?_ ?_)
   | (with_reducible refine LeO.bind ?_ (fun _=>?_))
   | exact ih0 _ _ _
   | exact ih1 _ _ _ _
   | exact ih2 _ _ _ _ _
   | exact LeO.none _
   | refine LeO.ite ?_ ?_
   | refine LeO.bind ?_ (fun _=>?_)
theorem legateref02_prime.mono:∀ a0 k,LeO (legateref02_prime.f k a0) (legateref02_prime.f (k+1) a0):=by
 intro a0 k
 obtain ⟨ih0,ih1,ih2⟩:=legateref02_prime.mono_l k
 unfold legateref02_prime.f
 repeat' first
  | (with_reducible exact ih0 _ _ _)
  | (with_reducible exact ih1 _ _ _ _)
  | (with_reducible exact ih2 _ _ _ _ _)
  | (with_reducible exact LeO.refl _)
  | (with_reducible exact LeO.none _)
  | (with_reducible refine LeO.ite ?_ ?_)
  | (with_reducible refine LeO.bind ?_ (fun _=>?_))
  | exact ih0 _ _ _
  | exact ih1 _ _ _ _
  | exact ih2 _ _ _ _ _
  | exact LeO.none _
  | refine LeO.ite ?_ ?_
  | refine LeO.bind ?_ (fun _=>?_)
set_option maxHeartbeats 8000000 in
set_option maxRecDepth 100000 in
theorem legateref02_prime.calls (k:Nat) (a0:Int) (r:Int) (w:World) (h:legateref02_prime.f k a0=some r) :
 Calls Tryd.prog 64 #[.int .i64 a0] w fun e w'=>e=.returned (.int .i64 r)∧Drawn0 w w':=by
 have H:(legateref02_prime.l0 k a0 2 0)=some r:=h
 clear h
 have H':=zK H
 clear H
 go_enter Tryd.func64,Tryd.ntmps64
 go_wp2
 go_loopg [3,4] k (fun kq v3 v4 w'=>∃ (x3_1:Int) (x4_1:Int),v3=.int .i64 x3_1∧v4=.int .i64 x4_1∧Aside0 (legateref02_prime.l0 kq a0 x3_1 x4_1=some r)∧Aside0 (kq≤k)∧Drawn0 w w')
 case atStart=>exact ⟨(2),(0),(by first|rfl|(simp; done)|(simp [*]; done)),(by first|rfl|(simp; done)|(simp [*]; done)),H',⟨Nat.le_refl _⟩,by repeat (first|exact Drawn0.refl _|apply Drawn0.step)⟩
 case round =>
  clear H'
  obtain ⟨x3_1,x4_1,rfl,rfl,HA,HK1,⟨m1,rfl⟩⟩:=hrel
  cases gk with
  | zero=>exact absurd HA.out (by simp [legateref02_prime.l0])
  | succ k1 =>
   have H:=HA.out
   clear HA
   simp only [legateref02_prime.l0] at H
   have HC2:=zK H
   clear H
   go_upto_block 2 with (fail)
   go_cut [5] (fun v5 wc=>∃ (kq:Nat) (x5_1:Bool),v5=.bool x5_1∧Aside0 (legateref02_prime.j2 kq a0 x3_1 x4_1 x5_1=some r)∧Aside0 (kq≤k1)∧Drawn0 w wc)
   case first =>
    have H:=HC2.out
    clear HC2
    have H':=zK H
    clear H
    go_wp2
    go_loopg [5,6] k1 (fun kq v5 v6 w'=>∃ (x5_2:Bool) (x6_2:Int),v5=.bool x5_2∧v6=.int .i64 x6_2∧Aside0 (legateref02_prime.l1 kq a0 x3_1 x4_1 x5_2 x6_2=some r)∧Aside0 (kq≤k1)∧Drawn0 w w')
    case atStart=>exact ⟨(true),(2),(by first|rfl|(simp; done)|(simp [*]; done)),(by first|rfl|(simp; done)|(simp [*]; done)),H',⟨Nat.le_refl _⟩,by repeat (first|exact Drawn0.refl _|apply Drawn0.step)⟩
    case round =>
     clear H'
     try clear p2
     obtain ⟨x5_2,x6_2,rfl,rfl,HA,HK2,⟨m2,rfl⟩⟩:=hrel
     cases gk with
     | zero=>exact absurd HA.out (by simp [legateref02_prime.l1])
     | succ k2 =>
      have H:=HA.out
      clear HA
      simp only [legateref02_prime.l1] at H
      by_cases c3:(wrap64 (x6_2 * x6_2))≤x3_1
      case neg =>
       rw [if_neg c3] at H
       have c3b0:decide ((wrap64 (x6_2 * x6_2))≤x3_1)=false:=decide_eq_false c3
       clear c3
       (first|rw [c3b0]|(simp only [i64_w,i32_w]; rw [c3b0])|skip)
       have H':=zK H
       clear H
       go_wp2
       go_meet
       case rel=>exact ⟨_,(x5_2),(by first|rfl|(simp; done)|(simp [*]; done)),H',⟨by have:=HK1.out; have:=HK2.out; first|omega|exact Nat.le_refl _⟩,by repeat (first|exact Drawn0.refl _|apply Drawn0.step)⟩
      rw [if_pos c3] at H
      have c3b0:decide ((wrap64 (x6_2 * x6_2))≤x3_1)=true:=decide_eq_true c3
      clear c3
      (first|rw [c3b0]|(simp only [i64_w,i32_w]; rw [c3b0])|skip)
      by_cases c4:x5_2=true
      case neg =>
       replace c4:=Bool.eq_false_iff.mpr c4
       subst c4
       have H1:(legateref02_prime.j2 k2 a0 x3_1 x4_1 false)=some r:=by rw [if_neg (show ¬ (false=true) by decide)] at H; exact H
       clear H
       have H:=H1
       clear H1
       have H':=zK H
       clear H
       go_wp2
       go_meet
       case rel=>exact ⟨_,(false),(by first|rfl|(simp; done)|(simp [*]; done)),H',⟨by have:=HK1.out; have:=HK2.out; first|omega|exact Nat.le_refl _⟩,by repeat (first|exact Drawn0.refl _|apply Drawn0.step)⟩
      subst c4
      have H1:(if x6_2=0 then (none) else (legateref02_prime.l1 k2 a0 x3_1 x4_1 ((Int.tmod x3_1 x6_2) != 0) (wrap64 (x6_2+1))))=some r:=by rw [if_pos rfl] at H; exact H
      clear H
      have H:=H1
      clear H1
      by_cases c5:x6_2=0
      case pos =>
       rw [if_pos c5] at H
       exact absurd H (by simp)
      rw [if_neg c5] at H
      have c5b0:(x6_2 == 0)=false:=beq_eq_false_iff_ne.mpr c5
      have c5b1:(x6_2 != 0)=true:=bne_iff_ne.mpr c5
      have H':=zK H
      clear H
      go_wp2
      go_roundg k2
      case measure=>have:=HK1.out; have:=HK2.out; omega
      case rel=>exact ⟨(((Int.tmod x3_1 x6_2) != 0)),(wrap64 (x6_2+1)),(by first|rfl|(simp; done)|(simp [*]; done)),(by first|rfl|(simp; done)|(simp [*]; done)),H',⟨by have:=HK1.out; have:=HK2.out; omega⟩,by repeat (first|exact Drawn0.refl _|apply Drawn0.step)⟩
   case rest =>
    clear HC2
    try clear p2
    try clear c3
    try clear c3b0
    try clear c4
    try clear c5
    try clear c5b0
    try clear c5b1
    try clear p2
    obtain ⟨kq,x5_1,rfl,HA,HJ1,⟨mc1,rfl⟩⟩:=hcut
    cases kq with
    | zero=>exact absurd HA.out (by simp [legateref02_prime.j2])
    | succ kj1 =>
     have H:=HA.out
     clear HA
     simp only [legateref02_prime.j2] at H
     by_cases c6:x5_1=true
     case neg =>
      replace c6:=Bool.eq_false_iff.mpr c6
      subst c6
      have H1:(legateref02_prime.l0 kj1 a0 (wrap64 (x3_1+1)) x4_1)=some r:=by rw [if_neg (show ¬ (false=true) by decide)] at H; exact H
      clear H
      have H:=H1
      clear H1
      have H':=zK H
      clear H
      go_wp2
      go_roundg kj1
      case measure=>have:=HK1.out; have:=HJ1.out; omega
      case rel=>exact ⟨(wrap64 (x3_1+1)),(x4_1),(by first|rfl|(simp; done)|(simp [*]; done)),(by first|rfl|(simp; done)|(simp [*]; done)),H',⟨by have:=HK1.out; have:=HJ1.out; omega⟩,by repeat (first|exact Drawn0.refl _|apply Drawn0.step)⟩
     subst c6
     have H1:(if x4_1=a0 then (some x3_1) else (legateref02_prime.l0 kj1 a0 (wrap64 (x3_1+1)) (wrap64 (x4_1+1))))=some r:=by rw [if_pos rfl] at H; exact H
     clear H
     have H:=H1
     clear H1
     by_cases c7:x4_1=a0
     case pos =>
      rw [if_pos c7] at H
      have c7b0:(x4_1 == a0)=true:=beq_iff_eq.mpr c7
      have c7b1:(x4_1 != a0)=false:=bne_eq_false_iff_eq.mpr c7
      clear c7
      obtain rfl:=Option.some.inj H
      go_wp2
      go_ret
      exact ⟨by first|rfl|(simp; done)|(simp [*]; done),by repeat (first|exact Drawn0.refl _|apply Drawn0.step)⟩
     rw [if_neg c7] at H
     have c7b0:(x4_1 == a0)=false:=beq_eq_false_iff_ne.mpr c7
     have c7b1:(x4_1 != a0)=true:=bne_iff_ne.mpr c7
     have H':=zK H
     clear H
     go_wp2
     go_roundg kj1
     case measure=>have:=HK1.out; have:=HJ1.out; omega
     case rel=>exact ⟨(wrap64 (x3_1+1)),(wrap64 (x4_1+1)),(by first|rfl|(simp; done)|(simp [*]; done)),(by first|rfl|(simp; done)|(simp [*]; done)),H',⟨by have:=HK1.out; have:=HJ1.out; omega⟩,by repeat (first|exact Drawn0.refl _|apply Drawn0.step)⟩
def legateref02_Keys.l0:Nat→List Int→Int→Option (List Int)
  | 0,_,_=>none
  | k+1,x1,x2=>if x2<64 then ((legateref02_prime.f k x2).bind fun t148=>((legateref02_root.f k t148 true).bind fun t149=>(if x1.length<17592186044416 then (legateref02_Keys.l0 k (x1++[t149]) (wrap64 (x2+1))) else (none)))) else (some x1)
def legateref02_Keys.f (k:Nat):Option (List Int):=legateref02_Keys.l0 k ([]:List Int) 0
set_option maxHeartbeats 8000000 in
set_option maxRecDepth 100000 in
theorem legateref02_Keys.calls (k:Nat) (r:List Int) (w:World) (h:legateref02_Keys.f k=some r) :
 Calls Tryd.prog 24 #[] w fun e w'=>∃ v0_:Value,e=.returned (v0_)∧Kd.R (Kd.int .i64) 3 w' w.heap.size (fun _=>True) v0_ r∧Below w.heap.size w w':=by
 have HB:=zK (Below.refl w.heap.size w)
 have H:(legateref02_Keys.l0 k ([]:List Int) 0)=some r:=h
 clear h
 have H':=zK H
 clear H
 go_enter Tryd.func24,Tryd.ntmps24
 go_wp2
 go_loopg [1,2] k (fun kq v1 v2 w'=>∃ (x1_1:List Int) (x2_1:Int),v2=.int .i64 x2_1∧Aside0 (legateref02_Keys.l0 kq x1_1 x2_1=some r)∧Aside0 (kq≤k)∧Aside0 (Kd.R (Kd.int .i64) 3 w' w.heap.size (fun _=>True) v1 x1_1)∧Aside0 (Below w.heap.size w w'))
 case atStart=>exact ⟨(([]:List Int)),(0),(by first|rfl|(simp; done)|(simp [*]; done)),H',⟨Nat.le_refl _⟩,⟨by first|exact Kd.R_nil _ _ _ _ _|exact Kd.N_nil _ _ _ _ _|exact Kd.V_nil _ _ _ _ _|exact Kd.Q_nil _ _ _ _ _|exact Kd.S_nil _ _ _ _ _⟩,⟨by repeat (first|(with_reducible first|exact HB.out|apply zA|apply zN|apply zD)|exact HB.out)⟩⟩
 case round =>
  clear H'
  obtain ⟨x1_1,x2_1,rfl,HA,HK1,HO_1,HB⟩:=hrel
  cases gk with
  | zero=>exact absurd HA.out (by simp [legateref02_Keys.l0])
  | succ k1 =>
   have H:=HA.out
   clear HA
   simp only [legateref02_Keys.l0] at H
   by_cases c1:x2_1<64
   case neg =>
    rw [if_neg c1] at H
    have c1b0:decide (x2_1<64)=false:=decide_eq_false c1
    clear c1
    obtain rfl:=Option.some.inj H
    go_wp2
    go_ret
    exact ⟨_,by first|rfl|(simp [errW_none,errW_some]<;>rfl)|(simp [*,errW_none,errW_some]<;>rfl),by (with_reducible repeat (first|apply Kd.R_alloc|apply Kd.R_drewN|apply Kd.R_drew)); exact HO_1.out,by repeat (first|(with_reducible first|exact HB.out|apply zA|apply zN|apply zD)|exact HB.out)⟩
   rw [if_pos c1] at H
   have c1b0:decide (x2_1<64)=true:=decide_eq_true c1
   clear c1
   replace H:=Option.bind_eq_some_iff.mp H
   obtain ⟨t148,A20,H⟩:=H
   replace H:((legateref02_root.f k1 t148 true).bind fun t149=>(if x1_1.length<17592186044416 then (legateref02_Keys.l0 k1 (x1_1++[t149]) (wrap64 (x2_1+1))) else (none)))=some r:=H
   have A2:=zK A20
   clear A20
   replace H:=Option.bind_eq_some_iff.mp H
   obtain ⟨t149,A30,H⟩:=H
   replace H:(if x1_1.length<17592186044416 then (legateref02_Keys.l0 k1 (x1_1++[t149]) (wrap64 (x2_1+1))) else (none))=some r:=H
   have A3:=zK A30
   clear A30
   by_cases c4:x1_1.length<17592186044416
   case neg =>
    rw [if_neg c4] at H
    exact absurd H (by simp)
   rw [if_pos c4] at H
   have LMc4:=zK c4
   clear c4
   obtain ⟨y150,hy150⟩:∃ y_:List Int,y_=(x1_1++[t149]):=⟨_,rfl⟩
   replace H:(legateref02_Keys.l0 k1 y150 (wrap64 (x2_1+1)))=some r:=by first|(rw [hy150]; with_reducible exact H)|(have H2_:=(Option.bind_some _ _).symm.trans H; rw [hy150]; with_reducible exact H2_)|(have H2_:=(Option.bind_some _ _).symm.trans H; with_reducible exact H2_)|with_reducible exact H|(rw [hy150]; exact H)|exact H
   have Ny150:=zK hy150
   clear hy150
   have H':=zK H
   clear H
   go_wp2_with (first|((with_reducible refine gate_callee (f:=64) rfl ?_); refine goesL_ (some 9) rfl rfl Tryd.func64 (by kernel_rfl) rfl #[.int .i64 x2_1] rfl (by (try simp only [zm]); first|done|rfl|(simp only [zl]; rfl)) ?_; (with_reducible refine (legateref02_prime.calls k1 x2_1 t148 _ A2.out).mono ?_); rintro e w' ⟨rfl,⟨nd,rfl⟩⟩; refine ⟨_,rfl,?_⟩)|((with_reducible refine gate_callee (f:=63) rfl ?_); refine goesL_ (some 10) rfl rfl Tryd.func63 (by kernel_rfl) rfl #[.int .i64 t148,.bool true] rfl (by (try simp only [zm]); first|done|rfl|(simp only [zl]; rfl)) ?_; (with_reducible refine (legateref02_root.calls k1 t148 true t149 _ A3.out).mono ?_); rintro e w5 ⟨rfl,hb⟩; refine ⟨_,rfl,?_⟩; have n0_:=zK (Kd.R_below (by (with_reducible repeat (first|apply Kd.R_alloc|apply Kd.R_drewN|apply Kd.R_drew)); exact HO_1.out) hb); have n1_:=zK (below_step (by repeat (first|(with_reducible first|exact HB.out|apply zA|apply zN|apply zD)|exact HB.out)) hb); clear HO_1; clear HB; have HO_1:=n0_; have HB:=n1_; clear n0_ n1_; (try clear hb); (try clear hb2); (try clear hk); (try clear hi))|((with_reducible refine gate_builtin (b:=.append) (xs:=#[.tmp 7,.tmp 11]) rfl ?_); at_builtin; refine Kd.R_append (Kd.int .i64) (w0:=w) w.heap.size rfl (.tmp 7) (.tmp 11) 27 3 (.int .i64 0) 8 rfl Tryd.underlying27 info3 rfl (by decide) (by omega) u1 x1_1 t149 [.int .i64 t149] (fun _=>True) (fun _=>False) rfl rfl ?aP (fun _ hk=>hk.elim) ?aF ?aO ?aB ?aS ?aL ?_; (case aP=>exact rfl); (case aB=>exact (by repeat (first|(with_reducible first|exact HB.out|apply zA|apply zN|apply zD)|exact HB.out))); (case aF=>exact (fun _ _=>trivial)); (case aO=>exact (by (with_reducible repeat (first|apply Kd.R_alloc|apply Kd.R_drewN|apply Kd.R_drew)); exact HO_1.out)); (case aS=>exact (below_size (by repeat (first|(with_reducible first|exact HB.out|apply zA|apply zN|apply zD)|exact HB.out)))); (case aL=>have:=LMc4.out; omega); intro v151 w6 ho hb hg hat; rw [← Ny150.out] at ho; have n0_:=zK (hb); have n1_:=zK (ho); clear HB; clear HO_1; have HB:=n0_; have HO152:=n1_; clear n0_ n1_; clear ho hb hg hat))
   go_roundg k1
   case measure=>have:=HK1.out; omega
   case rel=>exact ⟨(y150),(wrap64 (x2_1+1)),(by first|rfl|(simp; done)|(simp [*]; done)),H',⟨by have:=HK1.out; omega⟩,⟨by (with_reducible repeat (first|apply Kd.R_alloc|apply Kd.R_drewN|apply Kd.R_drew)); exact HO152.out⟩,⟨by repeat (first|(with_reducible first|exact HB.out|apply zA|apply zN|apply zD)|exact HB.out)⟩⟩
def legateref02_bytes.l0:Nat→List Int→ByteArray→Int→Option (ByteArray)
  | 0,_,_,_=>none
  | k+1,x0,x3,x4=>if x4<(x0.length:Int) then (if 0≤x4 then ((some (([(wrap64 (Int.tdiv (rd x0 x4) 16777216)) % 256,(Int.tmod (wrap64 (Int.tdiv (rd x0 x4) 65536)) 256) % 256,(Int.tmod (wrap64 (Int.tdiv (rd x0 x4) 256)) 256) % 256,(Int.tmod (rd x0 x4) 256) % 256]:List Int):List Int)).bind fun y157=>(if x3.size+(strOfNums y157).size≤9223372036854775807 then (legateref02_bytes.l0 k x0 (x3++(strOfNums y157)) (wrap64 (x4+1))) else (none))) else (none)) else (some x3)
def legateref02_bytes.f (k:Nat) (l0:List Int):Option (ByteArray):=legateref02_bytes.l0 k l0 (⟨#[]⟩:ByteArray) 0
def legateref02_bytes.T5:Bool×List (List Nat×List Nat):=(true,[([],[]),([],[]),([],[]),([1,2],[1,2]),([3],[3]),([4],[4]),([5],[5]),([],[]),([],[]),([7,8],[7,8]),([9],[9]),([10],[10]),([11],[11]),([12],[12]),([],[]),([],[]),([14,15],[14,15]),([16],[16]),([17],[17]),([18],[18]),([19],[19]),([],[]),([],[]),([21,22],[21,22]),([23],[23]),([24],[24]),([25],[25]),([6,13,20,26],[6,13,20,26]),([27],[27]),([0,28],[0,28]),([29,0,1,2,3,4,5,6,7,8,9,10,11,12,13,14,15,16,17,18,19,20,21,22,23,24,25,26,27,28,29],[0,29])])
def legateref02_bytes.B5:List Nat:=[0,0,0,6,14,30,62,0,0,384,896,1920,3968,8064,0,0,49152,114688,245760,507904,1032192,0,0,6291456,14680064,31457280,65011712,134217726,268435454,536870911,1073741823]
theorem legateref02_bytes.tab5:rtab .any (opsOf Tryd.f62 5)=legateref02_bytes.T5:=by kernel_rfl
theorem legateref02_bytes.bits5:waitsOk legateref02_bytes.T5.2 legateref02_bytes.B5=true:=by kernel_rfl
set_option maxHeartbeats 8000000 in
set_option maxRecDepth 100000 in
theorem legateref02_bytes.calls (k:Nat) (A0:Option Addr) (c0:Nat) (l0:List Int) (r:ByteArray) (w:World) (hr0:Kd.C (Kd.int .i64) w A0 l0.length l0) (hc0:l0.length≤c0) (h:legateref02_bytes.f k l0=some r) :
 Calls Tryd.prog 62 #[.slice A0 l0.length c0] w fun e w'=>e=.returned (.string r)∧Below w.heap.size w w':=by
 have HR0:=zK hr0
 have HC0:=zK hc0
 clear hr0 hc0
 have HB:=zK (Below.refl w.heap.size w)
 have H:(legateref02_bytes.l0 k l0 (⟨#[]⟩:ByteArray) 0)=some r:=h
 clear h
 have H':=zK H
 clear H
 go_enter Tryd.func62,Tryd.ntmps62
 go_wp2
 go_loopg [3,4] k (fun kq v3 v4 w'=>∃ (x3_1:ByteArray) (x4_1:Int),v3=.string x3_1∧v4=.int .i64 x4_1∧Aside0 (legateref02_bytes.l0 kq l0 x3_1 x4_1=some r)∧Aside0 (kq≤k)∧Aside0 (Below w.heap.size w w'))
 case atStart=>exact ⟨((⟨#[]⟩:ByteArray)),(0),(by first|rfl|(simp; done)|(simp [*]; done)),(by first|rfl|(simp; done)|(simp [*]; done)),H',⟨Nat.le_refl _⟩,⟨by repeat (first|(with_reducible first|exact HB.out|apply zA|apply zN|apply zD)|exact HB.out)⟩⟩
 case round =>
  clear H'
  obtain ⟨x3_1,x4_1,rfl,rfl,HA,HK1,HB⟩:=hrel
  cases gk with
  | zero=>exact absurd HA.out (by simp [legateref02_bytes.l0])
  | succ k1 =>
   have H:=HA.out
   clear HA
   simp only [legateref02_bytes.l0] at H
   by_cases c2:x4_1<(l0.length:Int)
   case neg =>
    rw [if_neg c2] at H
    have c2b0:decide (x4_1<(l0.length:Int))=false:=decide_eq_false c2
    clear c2
    obtain rfl:=Option.some.inj H
    go_wp2
    go_ret
    exact ⟨by first|rfl|(simp [errW_none,errW_some]<;>rfl)|(simp [*,errW_none,errW_some]<;>rfl),by repeat (first|(with_reducible first|exact HB.out|apply zA|apply zN|apply zD)|exact HB.out)⟩
   rw [if_pos c2] at H
   have c2b0:decide (x4_1<(l0.length:Int))=true:=decide_eq_true c2
   clear c2
   by_cases c3:0≤x4_1
   case neg =>
    rw [if_neg c3] at H
    exact absurd H (by simp)
   rw [if_pos c3] at H
   have c3b0:decide (0≤x4_1)=true:=decide_eq_true c3
   clear c3
   obtain ⟨y157,hy157⟩:∃ y_:List Int,y_=(([(wrap64 (Int.tdiv (rd l0 x4_1) 16777216)) % 256,(Int.tmod (wrap64 (Int.tdiv (rd l0 x4_1) 65536)) 256) % 256,(Int.tmod (wrap64 (Int.tdiv (rd l0 x4_1) 256)) 256) % 256,(Int.tmod (rd l0 x4_1) 256) % 256]:List Int)):=⟨_,rfl⟩
   replace H:(if x3_1.size+(strOfNums y157).size≤9223372036854775807 then (legateref02_bytes.l0 k1 l0 (x3_1++(strOfNums y157)) (wrap64 (x4_1+1))) else (none))=some r:=by first|(rw [hy157]; with_reducible exact H)|(have H2_:=(Option.bind_some _ _).symm.trans H; rw [hy157]; with_reducible exact H2_)|(have H2_:=(Option.bind_some _ _).symm.trans H; with_reducible exact H2_)|with_reducible exact H|(rw [hy157]; exact H)|exact H
   have Ny157:=zK hy157
   clear hy157
   by_cases c4:x3_1.size+(strOfNums y157).size≤9223372036854775807
   case neg =>
    rw [if_neg c4] at H
    exact absurd H (by simp)
   rw [if_pos c4] at H
   have c4b0:=eq_true c4
   have c4b0z:=c4b0
   (try simp only [ByteArray.size_append,Int.natCast_add,show (⟨#[]⟩:ByteArray).size=0 from rfl] at c4b0z)
   have c4b1:decide (x3_1.size+(strOfNums y157).size≤9223372036854775807)=true:=decide_eq_true c4
   have c4b1z:=c4b1
   (try simp only [ByteArray.size_append,Int.natCast_add,show (⟨#[]⟩:ByteArray).size=0 from rfl] at c4b1z)
   try have c4b2:(9223372036854775807<x3_1.size+(strOfNums y157).size)=False:=eq_false (Nat.not_lt.2 c4)
   have H':=zK H
   clear H
   try go_wp2
   have n0_:=zK (zD HB.out)
   clear HB
   have HB:=n0_
   clear n0_
   have p153:0≤(x4_1:Int):=of_decide_eq_true (by first|(with_reducible assumption)|assumption)
   have q153:x4_1<(l0.length:Int):=of_decide_eq_true (by first|(with_reducible assumption)|assumption)
   obtain ⟨ad153,e153,hx153_0⟩:=Kd.at_int HR0.out x4_1 p153 q153
   have hw153_0:=hx153_0
   cases e153
   replace hx153_0:=(HB.out.cell (World.block_lt_of_cell? w _ hx153_0)).trans hx153_0
   replace p153:=eq_true p153
   replace q153:=eq_true q153
   have p154:0≤(x4_1:Int):=of_decide_eq_true (by first|(with_reducible assumption)|assumption)
   have q154:x4_1<(l0.length:Int):=of_decide_eq_true (by first|(with_reducible assumption)|assumption)
   obtain ⟨ad154,e154,hx154_0⟩:=Kd.at_int HR0.out x4_1 p154 q154
   have hw154_0:=hx154_0
   obtain rfl:ad153=ad154:=(by injection e154)
   replace hx154_0:=(HB.out.cell (World.block_lt_of_cell? w _ hx154_0)).trans hx154_0
   replace p154:=eq_true p154
   replace q154:=eq_true q154
   have p155:0≤(x4_1:Int):=of_decide_eq_true (by first|(with_reducible assumption)|assumption)
   have q155:x4_1<(l0.length:Int):=of_decide_eq_true (by first|(with_reducible assumption)|assumption)
   obtain ⟨ad155,e155,hx155_0⟩:=Kd.at_int HR0.out x4_1 p155 q155
   have hw155_0:=hx155_0
   obtain rfl:ad153=ad155:=(by injection e155)
   replace hx155_0:=(HB.out.cell (World.block_lt_of_cell? w _ hx155_0)).trans hx155_0
   replace p155:=eq_true p155
   replace q155:=eq_true q155
   have p156:0≤(x4_1:Int):=of_decide_eq_true (by first|(with_reducible assumption)|assumption)
   have q156:x4_1<(l0.length:Int):=of_decide_eq_true (by first|(with_reducible assumption)|assumption)
   obtain ⟨ad156,e156,hx156_0⟩:=Kd.at_int HR0.out x4_1 p156 q156
   have hw156_0:=hx156_0
   obtain rfl:ad153=ad156:=(by injection e156)
   replace hx156_0:=(HB.out.cell (World.block_lt_of_cell? w _ hx156_0)).trans hx156_0
   replace p156:=eq_true p156
   replace q156:=eq_true q156
   refine start_ (n:=31) (S:=fun w'=>w'.cell? (ad153.add (x4_1).toNat)=some (.int .i64 (rd l0 x4_1))∧w'.cell? (ad153.add (x4_1).toNat)=some (.int .i64 (rd l0 x4_1))∧w'.cell? (ad153.add (x4_1).toNat)=some (.int .i64 (rd l0 x4_1))∧w'.cell? (ad153.add (x4_1).toNat)=some (.int .i64 (rd l0 x4_1))) (ds:=[]) #[G,G,G,G,G,G,G,G,G,G,G,G,G,G,G,G,G,G,G,G,G,G,G,G,G,G,G,G,G,G,G] (by kernel_rfl) rfl rfl ⟨((HB.out.cell (World.block_lt_of_cell? w _ hw153_0)).trans hw153_0),((HB.out.cell (World.block_lt_of_cell? w _ hw154_0)).trans hw154_0),((HB.out.cell (World.block_lt_of_cell? w _ hw155_0)).trans hw155_0),((HB.out.cell (World.block_lt_of_cell? w _ hw156_0)).trans hw156_0)⟩ (fun hHeld=>?_); refine with_tabW legateref02_bytes.tab5 legateref02_bytes.bits5 (fun HT_ HW_=>?_)
   generalize wr.drew=w5 at HB hx153_0 hx154_0 hx155_0 hx156_0 hHeld ⊢
   refine zq 0 (some 11) ?_ #[O,G,G,G,G,G,G,G,G,G,G,G,G,G,G,G,G,G,G,G,G,G,G,G,G,G,G,G,G,G,G] rfl rfl (any_of HT_.out (by kernel_rfl)) (fun _ _ _ h=>h) (Or.inl ⟨by rfl,?_⟩) ?_ ?_ ?_
   rotate_left;(intro w';go_simp;with_reducible rfl);rotate_left;(simp only [Act.put,zp];rfl)
   refine zq 1 (some 12) ?_ #[O,O,G,G,G,G,G,G,G,G,G,G,G,G,G,G,G,G,G,G,G,G,G,G,G,G,G,G,G,G,G] rfl rfl (any_of HT_.out (by kernel_rfl)) (fun _ _ _ h=>h) (Or.inl ⟨by rfl,?_⟩) ?_ ?_ ?_
   rotate_left;(intro w';go_simp;with_reducible rfl);rotate_left;(simp only [Act.put,zp];rfl)
   refine zq 2 (some 13) ?_ #[O,O,O,G,G,G,G,G,G,G,G,G,G,G,G,G,G,G,G,G,G,G,G,G,G,G,G,G,G,G,G] rfl rfl (any_of HT_.out (by kernel_rfl)) (fun _ _ _ h=>h) (Or.inl ⟨by rfl,?_⟩) ?_ ?_ ?_
   rotate_left;(intro w';go_simp;with_reducible rfl);rotate_left;(simp only [Act.put,zp];rfl)
   refine zq 3 (some 14) ?_ #[O,O,O,O,G,G,G,G,G,G,G,G,G,G,G,G,G,G,G,G,G,G,G,G,G,G,G,G,G,G,G] rfl rfl (any_of HT_.out (by kernel_rfl)) (fun _ _ _ h=>h) (Or.inl ⟨by rfl,?_⟩) ?_ ?_ ?_
   rotate_left;(intro w';go_simp;with_reducible rfl);rotate_left;(simp only [Act.put,zp];rfl)
   refine zq 7 (some 18) ?_ #[O,O,O,O,G,G,G,O,G,G,G,G,G,G,G,G,G,G,G,G,G,G,G,G,G,G,G,G,G,G,G] rfl rfl (any_of HT_.out (by kernel_rfl)) (fun _ _ _ h=>h) (Or.inl ⟨by rfl,?_⟩) ?_ ?_ ?_
   rotate_left;(intro w';go_simp;with_reducible rfl);rotate_left;(simp only [Act.put,zp];rfl)
   refine zq 8 (some 19) ?_ #[O,O,O,O,G,G,G,O,O,G,G,G,G,G,G,G,G,G,G,G,G,G,G,G,G,G,G,G,G,G,G] rfl rfl (any_of HT_.out (by kernel_rfl)) (fun _ _ _ h=>h) (Or.inl ⟨by rfl,?_⟩) ?_ ?_ ?_
   rotate_left;(intro w';go_simp;with_reducible rfl);rotate_left;(simp only [Act.put,zp];rfl)
   refine zq 9 (some 20) ?_ #[O,O,O,O,G,G,G,O,O,O,G,G,G,G,G,G,G,G,G,G,G,G,G,G,G,G,G,G,G,G,G] rfl rfl (any_of HT_.out (by kernel_rfl)) (fun _ _ _ h=>h) (Or.inl ⟨by rfl,?_⟩) ?_ ?_ ?_
   rotate_left;(intro w';go_simp;with_reducible rfl);rotate_left;(simp only [Act.put,zp];rfl)
   refine zq 14 (some 25) ?_ #[O,O,O,O,G,G,G,O,O,O,G,G,G,G,O,G,G,G,G,G,G,G,G,G,G,G,G,G,G,G,G] rfl rfl (any_of HT_.out (by kernel_rfl)) (fun _ _ _ h=>h) (Or.inl ⟨by rfl,?_⟩) ?_ ?_ ?_
   rotate_left;(intro w';go_simp;with_reducible rfl);rotate_left;(simp only [Act.put,zp];rfl)
   refine zq 15 (some 26) ?_ #[O,O,O,O,G,G,G,O,O,O,G,G,G,G,O,O,G,G,G,G,G,G,G,G,G,G,G,G,G,G,G] rfl rfl (any_of HT_.out (by kernel_rfl)) (fun _ _ _ h=>h) (Or.inl ⟨by rfl,?_⟩) ?_ ?_ ?_
   rotate_left;(intro w';go_simp;with_reducible rfl);rotate_left;(simp only [Act.put,zp];rfl)
   refine zq 16 (some 27) ?_ #[O,O,O,O,G,G,G,O,O,O,G,G,G,G,O,O,O,G,G,G,G,G,G,G,G,G,G,G,G,G,G] rfl rfl (any_of HT_.out (by kernel_rfl)) (fun _ _ _ h=>h) (Or.inl ⟨by rfl,?_⟩) ?_ ?_ ?_
   rotate_left;(intro w';go_simp;with_reducible rfl);rotate_left;(simp only [Act.put,zp];rfl)
   refine zq 21 (some 32) ?_ #[O,O,O,O,G,G,G,O,O,O,G,G,G,G,O,O,O,G,G,G,G,O,G,G,G,G,G,G,G,G,G] rfl rfl (any_of HT_.out (by kernel_rfl)) (fun _ _ _ h=>h) (Or.inl ⟨by rfl,?_⟩) ?_ ?_ ?_
   rotate_left;(intro w';go_simp;with_reducible rfl);rotate_left;(simp only [Act.put,zp];rfl)
   refine zq 22 (some 33) ?_ #[O,O,O,O,G,G,G,O,O,O,G,G,G,G,O,O,O,G,G,G,G,O,O,G,G,G,G,G,G,G,G] rfl rfl (any_of HT_.out (by kernel_rfl)) (fun _ _ _ h=>h) (Or.inl ⟨by rfl,?_⟩) ?_ ?_ ?_
   rotate_left;(intro w';go_simp;with_reducible rfl);rotate_left;(simp only [Act.put,zp];rfl)
   refine zq 23 (some 34) ?_ #[O,O,O,O,G,G,G,O,O,O,G,G,G,G,O,O,O,G,G,G,G,O,O,O,G,G,G,G,G,G,G] rfl rfl (any_of HT_.out (by kernel_rfl)) (fun _ _ _ h=>h) (Or.inl ⟨by rfl,?_⟩) ?_ ?_ ?_
   rotate_left;(intro w';go_simp;with_reducible rfl);rotate_left;(simp only [Act.put,zp];rfl)
   refine take_ (i:=4) (N:=some 15) (v:=?_) (a':=?_) #[O,O,O,O,O,G,G,O,O,O,G,G,G,G,O,O,O,G,G,G,G,O,O,O,G,G,G,G,G,G,G] rfl rfl (take_ofW HT_.out HW_.out (by kernel_rfl)) (fun _ _ _ h=>h) (Or.inl ⟨by rfl,?_⟩) hHeld ?_ ?_
   rotate_left
   ·rintro w' ⟨s0,s1,s2,s3⟩
    go_simp
    with_reducible rfl
   rotate_left
   ·simp only [Act.put,zp]
    rfl
   refine zq 5 (some 16) ?_ #[O,O,O,O,O,O,G,O,O,O,G,G,G,G,O,O,O,G,G,G,G,O,O,O,G,G,G,G,G,G,G] rfl rfl (any_of HT_.out (by kernel_rfl)) (fun _ _ _ h=>h) (Or.inl ⟨by rfl,?_⟩) ?_ ?_ ?_
   rotate_left;(intro w';go_simp;with_reducible rfl);rotate_left;(simp only [Act.put,zp];rfl)
   refine zq 6 (some 17) ?_ #[O,O,O,O,O,O,O,O,O,O,G,G,G,G,O,O,O,G,G,G,G,O,O,O,G,G,G,G,G,G,G] rfl rfl (any_of HT_.out (by kernel_rfl)) (fun _ _ _ h=>h) (Or.inl ⟨by rfl,?_⟩) ?_ ?_ ?_
   rotate_left;(intro w';go_simp;with_reducible rfl);rotate_left;(simp only [Act.put,zp];rfl)
   refine take_ (i:=10) (N:=some 21) (v:=?_) (a':=?_) #[O,O,O,O,O,O,O,O,O,O,O,G,G,G,O,O,O,G,G,G,G,O,O,O,G,G,G,G,G,G,G] rfl rfl (take_ofW HT_.out HW_.out (by kernel_rfl)) (fun _ _ _ h=>h) (Or.inl ⟨by rfl,?_⟩) hHeld ?_ ?_
   rotate_left
   ·rintro w' ⟨s0,s1,s2,s3⟩
    go_simp
    with_reducible rfl
   rotate_left
   ·simp only [Act.put,zp]
    rfl
   refine zq 11 (some 22) ?_ #[O,O,O,O,O,O,O,O,O,O,O,O,G,G,O,O,O,G,G,G,G,O,O,O,G,G,G,G,G,G,G] rfl rfl (any_of HT_.out (by kernel_rfl)) (fun _ _ _ h=>h) (Or.inl ⟨by rfl,?_⟩) ?_ ?_ ?_
   rotate_left;(intro w';go_simp;with_reducible rfl);rotate_left;(simp only [Act.put,zp];rfl)
   refine zq 12 (some 23) ?_ #[O,O,O,O,O,O,O,O,O,O,O,O,O,G,O,O,O,G,G,G,G,O,O,O,G,G,G,G,G,G,G] rfl rfl (any_of HT_.out (by kernel_rfl)) (fun _ _ _ h=>h) (Or.inl ⟨by rfl,?_⟩) ?_ ?_ ?_
   rotate_left;(intro w';go_simp;with_reducible rfl);rotate_left;(simp only [Act.put,zp];rfl)
   refine zq 13 (some 24) ?_ #[O,O,O,O,O,O,O,O,O,O,O,O,O,O,O,O,O,G,G,G,G,O,O,O,G,G,G,G,G,G,G] rfl rfl (any_of HT_.out (by kernel_rfl)) (fun _ _ _ h=>h) (Or.inl ⟨by rfl,?_⟩) ?_ ?_ ?_
   rotate_left;(intro w';go_simp;with_reducible rfl);rotate_left;(simp only [Act.put,zp];rfl)
   refine take_ (i:=17) (N:=some 28) (v:=?_) (a':=?_) #[O,O,O,O,O,O,O,O,O,O,O,O,O,O,O,O,O,O,G,G,G,O,O,O,G,G,G,G,G,G,G] rfl rfl (take_ofW HT_.out HW_.out (by kernel_rfl)) (fun _ _ _ h=>h) (Or.inl ⟨by rfl,?_⟩) hHeld ?_ ?_
   rotate_left
   ·rintro w' ⟨s0,s1,s2,s3⟩
    go_simp
    with_reducible rfl
   rotate_left
   ·simp only [Act.put,zp]
    rfl
   refine zq 18 (some 29) ?_ #[O,O,O,O,O,O,O,O,O,O,O,O,O,O,O,O,O,O,O,G,G,O,O,O,G,G,G,G,G,G,G] rfl rfl (any_of HT_.out (by kernel_rfl)) (fun _ _ _ h=>h) (Or.inl ⟨by rfl,?_⟩) ?_ ?_ ?_
   rotate_left;(intro w';go_simp;with_reducible rfl);rotate_left;(simp only [Act.put,zp];rfl)
   refine zq 19 (some 30) ?_ #[O,O,O,O,O,O,O,O,O,O,O,O,O,O,O,O,O,O,O,O,G,O,O,O,G,G,G,G,G,G,G] rfl rfl (any_of HT_.out (by kernel_rfl)) (fun _ _ _ h=>h) (Or.inl ⟨by rfl,?_⟩) ?_ ?_ ?_
   rotate_left;(intro w';go_simp;with_reducible rfl);rotate_left;(simp only [Act.put,zp];rfl)
   refine zq 20 (some 31) ?_ #[O,O,O,O,O,O,O,O,O,O,O,O,O,O,O,O,O,O,O,O,O,O,O,O,G,G,G,G,G,G,G] rfl rfl (any_of HT_.out (by kernel_rfl)) (fun _ _ _ h=>h) (Or.inl ⟨by rfl,?_⟩) ?_ ?_ ?_
   rotate_left;(intro w';go_simp;with_reducible rfl);rotate_left;(simp only [Act.put,zp];rfl)
   refine take_ (i:=24) (N:=some 35) (v:=?_) (a':=?_) #[O,O,O,O,O,O,O,O,O,O,O,O,O,O,O,O,O,O,O,O,O,O,O,O,O,G,G,G,G,G,G] rfl rfl (take_ofW HT_.out HW_.out (by kernel_rfl)) (fun _ _ _ h=>h) (Or.inl ⟨by rfl,?_⟩) hHeld ?_ ?_
   rotate_left
   ·rintro w' ⟨s0,s1,s2,s3⟩
    go_simp
    with_reducible rfl
   rotate_left
   ·simp only [Act.put,zp]
    rfl
   refine zq 25 (some 36) ?_ #[O,O,O,O,O,O,O,O,O,O,O,O,O,O,O,O,O,O,O,O,O,O,O,O,O,O,G,G,G,G,G] rfl rfl (any_of HT_.out (by kernel_rfl)) (fun _ _ _ h=>h) (Or.inl ⟨by rfl,?_⟩) ?_ ?_ ?_
   rotate_left;(intro w';go_simp;with_reducible rfl);rotate_left;(simp only [Act.put,zp];rfl)
   refine zq 26 (some 37) ?_ #[O,O,O,O,O,O,O,O,O,O,O,O,O,O,O,O,O,O,O,O,O,O,O,O,O,O,O,G,G,G,G] rfl rfl (any_of HT_.out (by kernel_rfl)) (fun _ _ _ h=>h) (Or.inl ⟨by rfl,?_⟩) ?_ ?_ ?_
   rotate_left;(intro w';go_simp;with_reducible rfl);rotate_left;(simp only [Act.put,zp];rfl)
   refine one_ (i:=27) (N:=some 38) #[O,O,O,O,O,O,O,O,O,O,O,O,O,O,O,O,O,O,O,O,O,O,O,O,O,O,O,O,G,G,G] rfl rfl (one_of HT_.out (by kernel_rfl)) (by decide) (fun K hK=>?_)
   refine Kd.R_lit_step (Kd.int .u8) _ 5 ?hg (N:=38) ?hd (xs:=([(wrap64 (Int.tdiv (rd l0 x4_1) 16777216)) % 256,(Int.tmod (wrap64 (Int.tdiv (rd l0 x4_1) 65536)) 256) % 256,(Int.tmod (wrap64 (Int.tdiv (rd l0 x4_1) 256)) 256) % 256,(Int.tmod (rd l0 x4_1) 256) % 256]:List Int)) (inner:=[.int .u8 ((wrap64 (Int.tdiv (rd l0 x4_1) 16777216)) % 256),.int .u8 ((Int.tmod (wrap64 (Int.tdiv (rd l0 x4_1) 65536)) 256) % 256),.int .u8 ((Int.tmod (wrap64 (Int.tdiv (rd l0 x4_1) 256)) 256) % 256),.int .u8 ((Int.tmod (rd l0 x4_1) 256) % 256)]) (ok:=fun _=>True) (okp:=fun _=>True) ?hr ?hp (fun _ hk=>hk) trivial (Below.refl _ _) (Nat.le_refl _) (by simp) ?_; (case hd=>rfl); (case hg=>rfl); (case hr=>first|(go_simp; done)|(go_simp; rfl)); (case hp=>exact (Reps.one (show Kd.M (Kd.int .u8) _ _ _ ((wrap64 (Int.tdiv (rd l0 x4_1) 16777216)) % 256) [.int .u8 ((wrap64 (Int.tdiv (rd l0 x4_1) 16777216)) % 256)] from rfl) (Reps.one (show Kd.M (Kd.int .u8) _ _ _ ((Int.tmod (wrap64 (Int.tdiv (rd l0 x4_1) 65536)) 256) % 256) [.int .u8 ((Int.tmod (wrap64 (Int.tdiv (rd l0 x4_1) 65536)) 256) % 256)] from rfl) (Reps.one (show Kd.M (Kd.int .u8) _ _ _ ((Int.tmod (wrap64 (Int.tdiv (rd l0 x4_1) 256)) 256) % 256) [.int .u8 ((Int.tmod (wrap64 (Int.tdiv (rd l0 x4_1) 256)) 256) % 256)] from rfl) (Reps.one (show Kd.M (Kd.int .u8) _ _ _ ((Int.tmod (rd l0 x4_1) 256) % 256) [.int .u8 ((Int.tmod (rd l0 x4_1) 256) % 256)] from rfl) (Reps.none _ _))))))
   intro v158 w6 ho7 hb hg_ hnew_
   clear hg_ hnew_
   (first|rw [← Ny157.out] at ho7|(simp only [Int.reduceToNat] at ho7; rw [← Ny157.out] at ho7))
   have n0_:=zK (Kd.R_lower ho7 (below_size (by repeat (first|(with_reducible first|exact HB.out|apply zA|apply zN|apply zD)|exact HB.out))))
   have n1_:=zK (below_step (by repeat (first|(with_reducible first|exact HB.out|apply zA|apply zN|apply zD)|exact HB.out)) hb)
   clear HB
   have HO159:=n0_
   have HB:=n1_
   clear n0_ n1_
   clear hb ho7
   refine hK.out _ _ ⟨((HB.out.cell (World.block_lt_of_cell? w _ hw153_0)).trans hw153_0),((HB.out.cell (World.block_lt_of_cell? w _ hw154_0)).trans hw154_0),((HB.out.cell (World.block_lt_of_cell? w _ hw155_0)).trans hw155_0),((HB.out.cell (World.block_lt_of_cell? w _ hw156_0)).trans hw156_0)⟩ (fun hHeld=>?_)
   clear hK K
   refine norm_ (a':=?_) ?_ ?_
   rotate_left
   ·show Act.put _ (some 38) _=_
    simp only [Act.put,zp]
    rfl
   refine one_ (i:=28) (N:=some 39) #[O,O,O,O,O,O,O,O,O,O,O,O,O,O,O,O,O,O,O,O,O,O,O,O,O,O,O,O,O,G,G] rfl rfl (one_of HT_.out (by kernel_rfl)) (by decide) (fun K hK=>?_)
   have hcv8:=own_string (P:=Tryd.prog) Tryd.underlying44 Tryd.underlying5 Tryd.underlying9 (Kd.own_of_R HO159.out)
   refine value_ (w1:=?_) (v:=?_) (by rfl) rfl ?_ ?_
   rotate_left 2
   ·go_simp
    constructor
    ·rfl
    ·rfl
   clear hcv8
   refine hK.out _ _ ⟨((HB.out.cell (World.block_lt_of_cell? w _ hw153_0)).trans hw153_0),((HB.out.cell (World.block_lt_of_cell? w _ hw154_0)).trans hw154_0),((HB.out.cell (World.block_lt_of_cell? w _ hw155_0)).trans hw155_0),((HB.out.cell (World.block_lt_of_cell? w _ hw156_0)).trans hw156_0)⟩ (fun hHeld=>?_)
   clear hK K
   refine norm_ (a':=?_) ?_ ?_
   rotate_left
   ·show Act.put _ (some 39) _=_
    simp only [Act.put,zp]
    rfl
   refine zq 29 (some 40) ?_ #[O,O,O,O,O,O,O,O,O,O,O,O,O,O,O,O,O,O,O,O,O,O,O,O,O,O,O,O,O,O,G] rfl rfl (any_of HT_.out (by kernel_rfl)) (fun _ _ _ h=>h) (Or.inl ⟨by rfl,?_⟩) ?_ ?_ ?_
   rotate_left;(intro w';go_simp;with_reducible rfl);rotate_left;(simp only [Act.put,zp];rfl)
   refine zq 30 (some 3) ?_ #[O,O,O,O,O,O,O,O,O,O,O,O,O,O,O,O,O,O,O,O,O,O,O,O,O,O,O,O,O,O,O] rfl rfl (any_of HT_.out (by kernel_rfl)) (fun _ _ _ h=>h) (Or.inl ⟨by rfl,?_⟩) ?_ ?_ ?_
   rotate_left;(intro w';go_simp;with_reducible rfl);rotate_left;(simp only [Act.put,zp];rfl)
   refine done_ (done_of HT_.out (by kernel_rfl)) ?_
   try go_wp2
   go_roundg k1
   case measure=>have:=HK1.out; omega
   case rel=>exact ⟨(x3_1++(strOfNums y157)),(wrap64 (x4_1+1)),(by first|rfl|(simp; done)|(simp [*]; done)),(by first|rfl|(simp; done)|(simp [*]; done)),H',⟨by have:=HK1.out; omega⟩,⟨by repeat (first|(with_reducible first|exact HB.out|apply zA|apply zN|apply zD)|exact HB.out)⟩⟩
def legateref02_Start.l0:Nat→List Int→Int→Option (ByteArray)
  | 0,_,_=>none
  | k+1,x1,x2=>if x2<8 then ((legateref02_prime.f k x2).bind fun t160=>((legateref02_root.f k t160 false).bind fun t161=>(if x1.length<17592186044416 then (legateref02_Start.l0 k (x1++[t161]) (wrap64 (x2+1))) else (none)))) else ((legateref02_bytes.f k x1).bind fun t165=>(some t165))
def legateref02_Start.f (k:Nat):Option (ByteArray):=legateref02_Start.l0 k ([]:List Int) 0
set_option maxHeartbeats 8000000 in
set_option maxRecDepth 100000 in
theorem legateref02_Start.calls (k:Nat) (r:ByteArray) (w:World) (h:legateref02_Start.f k=some r) :
 Calls Tryd.prog 26 #[] w fun e w'=>e=.returned (.string r)∧Below w.heap.size w w':=by
 have HB:=zK (Below.refl w.heap.size w)
 have H:(legateref02_Start.l0 k ([]:List Int) 0)=some r:=h
 clear h
 have H':=zK H
 clear H
 go_enter Tryd.func26,Tryd.ntmps26
 go_wp2
 go_loopg [1,2] k (fun kq v1 v2 w'=>∃ (x1_1:List Int) (x2_1:Int),v2=.int .i64 x2_1∧Aside0 (legateref02_Start.l0 kq x1_1 x2_1=some r)∧Aside0 (kq≤k)∧Aside0 (Kd.R (Kd.int .i64) 3 w' w.heap.size (fun _=>True) v1 x1_1)∧Aside0 (Below w.heap.size w w'))
 case atStart=>exact ⟨(([]:List Int)),(0),(by first|rfl|(simp; done)|(simp [*]; done)),H',⟨Nat.le_refl _⟩,⟨by first|exact Kd.R_nil _ _ _ _ _|exact Kd.N_nil _ _ _ _ _|exact Kd.V_nil _ _ _ _ _|exact Kd.Q_nil _ _ _ _ _|exact Kd.S_nil _ _ _ _ _⟩,⟨by repeat (first|(with_reducible first|exact HB.out|apply zA|apply zN|apply zD)|exact HB.out)⟩⟩
 case round =>
  clear H'
  obtain ⟨x1_1,x2_1,rfl,HA,HK1,HO_1,HB⟩:=hrel
  cases gk with
  | zero=>exact absurd HA.out (by simp [legateref02_Start.l0])
  | succ k1 =>
   have H:=HA.out
   clear HA
   simp only [legateref02_Start.l0] at H
   by_cases c1:x2_1<8
   case neg =>
    rw [if_neg c1] at H
    have c1b0:decide (x2_1<8)=false:=decide_eq_false c1
    clear c1
    replace H:=Option.bind_eq_some_iff.mp H
    obtain ⟨t165,A70,H⟩:=H
    replace H:(some t165)=some r:=H
    have A7:=zK A70
    clear A70
    obtain rfl:=Option.some.inj H
    obtain ⟨Ao8,co8,eo8⟩:=Kd.R_slice HO_1.out
    subst eo8
    go_wp2_with (first|((with_reducible refine gate_callee (f:=62) rfl ?_); refine goesL_ (some 14) rfl rfl Tryd.func62 (by kernel_rfl) rfl #[.slice Ao8 x1_1.length co8] rfl (by (try simp only [zm]); first|done|rfl|(simp only [zl]; rfl)) ?_; (with_reducible refine (legateref02_bytes.calls k1 _ _ x1_1 t165 _ ?side1 ?side2 A7.out).mono ?_); (case side1=>repeat (first|exact (Kd.R_reads' HO_1.out).2.2|(with_reducible refine Kd.C_alloc ?_ _)|(with_reducible refine Kd.C_drewN ?_ _)|(with_reducible refine Kd.C_drew ?_))); (case side2=>exact (Kd.R_reads' HO_1.out).2.1); rintro e w9 ⟨rfl,hb⟩; refine ⟨_,rfl,?_⟩; have n0_:=zK (Kd.R_below (by (with_reducible repeat (first|apply Kd.R_alloc|apply Kd.R_drewN|apply Kd.R_drew)); exact HO_1.out) hb); have n1_:=zK (below_step (by repeat (first|(with_reducible first|exact HB.out|apply zA|apply zN|apply zD)|exact HB.out)) hb); clear HO_1; clear HB; have HO_1:=n0_; have HB:=n1_; clear n0_ n1_; (try clear hb); (try clear hb2); (try clear hk); (try clear hi)))
    go_ret
    exact ⟨by first|rfl|(simp [errW_none,errW_some]<;>rfl)|(simp [*,errW_none,errW_some]<;>rfl),by repeat (first|(with_reducible first|exact HB.out|apply zA|apply zN|apply zD)|exact HB.out)⟩
   rw [if_pos c1] at H
   have c1b0:decide (x2_1<8)=true:=decide_eq_true c1
   clear c1
   replace H:=Option.bind_eq_some_iff.mp H
   obtain ⟨t160,A20,H⟩:=H
   replace H:((legateref02_root.f k1 t160 false).bind fun t161=>(if x1_1.length<17592186044416 then (legateref02_Start.l0 k1 (x1_1++[t161]) (wrap64 (x2_1+1))) else (none)))=some r:=H
   have A2:=zK A20
   clear A20
   replace H:=Option.bind_eq_some_iff.mp H
   obtain ⟨t161,A30,H⟩:=H
   replace H:(if x1_1.length<17592186044416 then (legateref02_Start.l0 k1 (x1_1++[t161]) (wrap64 (x2_1+1))) else (none))=some r:=H
   have A3:=zK A30
   clear A30
   by_cases c4:x1_1.length<17592186044416
   case neg =>
    rw [if_neg c4] at H
    exact absurd H (by simp)
   rw [if_pos c4] at H
   have LMc4:=zK c4
   clear c4
   obtain ⟨y162,hy162⟩:∃ y_:List Int,y_=(x1_1++[t161]):=⟨_,rfl⟩
   replace H:(legateref02_Start.l0 k1 y162 (wrap64 (x2_1+1)))=some r:=by first|(rw [hy162]; with_reducible exact H)|(have H2_:=(Option.bind_some _ _).symm.trans H; rw [hy162]; with_reducible exact H2_)|(have H2_:=(Option.bind_some _ _).symm.trans H; with_reducible exact H2_)|with_reducible exact H|(rw [hy162]; exact H)|exact H
   have Ny162:=zK hy162
   clear hy162
   have H':=zK H
   clear H
   go_wp2_with (first|((with_reducible refine gate_callee (f:=64) rfl ?_); refine goesL_ (some 9) rfl rfl Tryd.func64 (by kernel_rfl) rfl #[.int .i64 x2_1] rfl (by (try simp only [zm]); first|done|rfl|(simp only [zl]; rfl)) ?_; (with_reducible refine (legateref02_prime.calls k1 x2_1 t160 _ A2.out).mono ?_); rintro e w' ⟨rfl,⟨nd,rfl⟩⟩; refine ⟨_,rfl,?_⟩)|((with_reducible refine gate_callee (f:=63) rfl ?_); refine goesL_ (some 10) rfl rfl Tryd.func63 (by kernel_rfl) rfl #[.int .i64 t160,.bool false] rfl (by (try simp only [zm]); first|done|rfl|(simp only [zl]; rfl)) ?_; (with_reducible refine (legateref02_root.calls k1 t160 false t161 _ A3.out).mono ?_); rintro e w5 ⟨rfl,hb⟩; refine ⟨_,rfl,?_⟩; have n0_:=zK (Kd.R_below (by (with_reducible repeat (first|apply Kd.R_alloc|apply Kd.R_drewN|apply Kd.R_drew)); exact HO_1.out) hb); have n1_:=zK (below_step (by repeat (first|(with_reducible first|exact HB.out|apply zA|apply zN|apply zD)|exact HB.out)) hb); clear HO_1; clear HB; have HO_1:=n0_; have HB:=n1_; clear n0_ n1_; (try clear hb); (try clear hb2); (try clear hk); (try clear hi))|((with_reducible refine gate_builtin (b:=.append) (xs:=#[.tmp 7,.tmp 11]) rfl ?_); at_builtin; refine Kd.R_append (Kd.int .i64) (w0:=w) w.heap.size rfl (.tmp 7) (.tmp 11) 27 3 (.int .i64 0) 8 rfl Tryd.underlying27 info3 rfl (by decide) (by omega) u1 x1_1 t161 [.int .i64 t161] (fun _=>True) (fun _=>False) rfl rfl ?aP (fun _ hk=>hk.elim) ?aF ?aO ?aB ?aS ?aL ?_; (case aP=>exact rfl); (case aB=>exact (by repeat (first|(with_reducible first|exact HB.out|apply zA|apply zN|apply zD)|exact HB.out))); (case aF=>exact (fun _ _=>trivial)); (case aO=>exact (by (with_reducible repeat (first|apply Kd.R_alloc|apply Kd.R_drewN|apply Kd.R_drew)); exact HO_1.out)); (case aS=>exact (below_size (by repeat (first|(with_reducible first|exact HB.out|apply zA|apply zN|apply zD)|exact HB.out)))); (case aL=>have:=LMc4.out; omega); intro v163 w6 ho hb hg hat; rw [← Ny162.out] at ho; have n0_:=zK (hb); have n1_:=zK (ho); clear HB; clear HO_1; have HB:=n0_; have HO164:=n1_; clear n0_ n1_; clear ho hb hg hat))
   go_roundg k1
   case measure=>have:=HK1.out; omega
   case rel=>exact ⟨(y162),(wrap64 (x2_1+1)),(by first|rfl|(simp; done)|(simp [*]; done)),H',⟨by have:=HK1.out; omega⟩,⟨by (with_reducible repeat (first|apply Kd.R_alloc|apply Kd.R_drewN|apply Kd.R_drew)); exact HO164.out⟩,⟨by repeat (first|(with_reducible first|exact HB.out|apply zA|apply zN|apply zD)|exact HB.out)⟩⟩
end Go.Proofs.YtkgijkfcmbpgpaaDoor.PAll
end
section
namespace Go.Proofs.YtkgijkfcmbpgpaaDoor.Giv
open Go.RowKit Go.Proofs.YtkgijkfcmbpgpaaDoorW.PrintWords Go.Proofs.YtkgijkfcmbpgpaaDoorW.PrintLast Go.Proofs.YtkgijkfcmbpgpaaDoorW.PrintMore
set_option linter.unusedVariables false
def turnZ (x:Int) (k:Nat):Int:=x / (2 ^ k)+x % (2 ^ k) * 2 ^ (32 - k)
def legateref02_turn.f (a0 a1:Int):Option Int :=
  if 0≤a0∧a0<4294967296∧(a1=2∨a1=6∨a1=7∨a1=11∨a1=13∨a1=17∨a1=18∨a1=19∨a1=22∨a1=25) then some (turnZ a0 a1.toNat) else none
theorem ret_i64 {a b:Int} (h:a=b):Ending.returned (.int .i64 a)=.returned (.int .i64 b):=by rw [h]
set_option maxHeartbeats 4000000 in
set_option maxRecDepth 100000 in
theorem legateref02_turn.calls (a0:Int) (a1:Int) (r:Int) (w:World) (h:legateref02_turn.f a0 a1=some r) :
 Calls Tryd.prog 61 #[.int .i64 a0,.int .i64 a1] w fun e w'=>e=.returned (.int .i64 r)∧Below w.heap.size w w':=by
 unfold legateref02_turn.f at h
 by_cases hc:0≤a0∧a0<4294967296∧(a1=2∨a1=6∨a1=7∨a1=11∨a1=13∨a1=17∨a1=18∨a1=19∨a1=22∨a1=25)
 case neg =>
  rw [if_neg hc] at h
  cases h
 rw [if_pos hc] at h
 obtain ⟨h0,h1,hk⟩:=hc
 have H:=zK (Option.some.inj h)
 clear h
 rcases hk with rfl|rfl|rfl|rfl|rfl|rfl|rfl|rfl|rfl|rfl
 all_goals
  go_enter Tryd.func61,Tryd.ntmps61
  go_wp2
  go_quiet (fail)
  go_wp2
  go_ret
  refine ⟨ret_i64 ?_,zN (Below.refl _ _) _⟩
  rw [← H.out]
  simp only [turnZ,Int.reduceToNat,Nat.reduceSub,Int.reducePow]
  try omega
end Go.Proofs.YtkgijkfcmbpgpaaDoor.Giv
end
