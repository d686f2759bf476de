import Derived.Test.YtkgijkfcmbpgpaaDoorS2b0
import Derived.Test.YtkgijkfcmbpgpaaDoorS2b1
import Derived.Test.YtkgijkfcmbpgpaaDoorS2b2
section
namespace Go.Proofs.YtkgijkfcmbpgpaaDoor.PAll
open Go.RowKit Go.Proofs.YtkgijkfcmbpgpaaDoorW.PrintWords Go.Proofs.YtkgijkfcmbpgpaaDoorW.PrintLast Go.Proofs.YtkgijkfcmbpgpaaDoorW.PrintMore
attribute [local go_sem] max2_int min2_int max_two min_two max_three min_three max_four min_four
set_option linter.unusedVariables false
set_option linter.unusedSimpArgs false
def legateref02_words.l0:Nat→ByteArray→List Int→Int→Option (List Int)
  | 0,_,_,_=>none
  | k+1,x0,x3,x4=>if (wrap64 (x4+3))<(x0.size:Int) then (if 0≤x4 then (if x4<(x0.size:Int) then (if 0≤(wrap64 (x4+1)) then (if (wrap64 (x4+1))<(x0.size:Int) then (if 0≤(wrap64 (x4+2)) then (if (wrap64 (x4+2))<(x0.size:Int) then (if 0≤(wrap64 (x4+3)) then (if x3.length<17592186044416 then (legateref02_words.l0 k x0 (x3++[wrap64 ((wrap64 ((wrap64 ((wrap64 ((wrap64 (bt x0 x4)) * 16777216))+(wrap64 ((wrap64 (bt x0 (wrap64 (x4+1)))) * 65536))))+(wrap64 ((wrap64 (bt x0 (wrap64 (x4+2)))) * 256))))+(wrap64 (bt x0 (wrap64 (x4+3)))))]) (wrap64 (x4+4))) else (none)) else (none)) else (none)) else (none)) else (none)) else (none)) else (none)) else (none)) else (some x3)
def legateref02_words.f (k:Nat) (a0:ByteArray):Option (List Int):=legateref02_words.l0 k a0 ([]:List Int) 0
def legateref02_words.T5:Bool×List (List Nat×List Nat):=(true,[([],[]),([],[]),([],[]),([1,2],[1,2]),([3],[3]),([4],[4]),([],[]),([],[]),([7],[7]),([6,8],[6,8]),([9],[9]),([10],[10]),([5,11],[5,11]),([],[]),([],[]),([14],[14]),([13,15],[13,15]),([16],[16]),([17],[17]),([12,18],[12,18]),([],[]),([],[]),([21],[21]),([20,22],[20,22]),([23],[23]),([19,24],[19,24]),([25],[25]),([0,26],[0,26]),([27,27,0,1,2,3,4,5,6,7,8,9,10,11,12,13,14,15,16,17,18,19,20,21,22,23,24,25,26,27],[0,27])])
def legateref02_words.B5:List Nat:=[0,0,0,6,14,30,0,0,128,448,960,1984,4094,0,0,16384,57344,122880,253952,524286,0,0,2097152,7340032,15728640,33554430,67108862,134217727,268435455]
theorem legateref02_words.tab5:rtab .any (opsOf Tryd.f60 5)=legateref02_words.T5:=by kernel_rfl
theorem legateref02_words.bits5:waitsOk legateref02_words.T5.2 legateref02_words.B5=true:=by kernel_rfl
set_option maxHeartbeats 8000000 in
set_option maxRecDepth 100000 in
theorem legateref02_words.calls (k:Nat) (a0:ByteArray) (r:List Int) (w:World) (h:legateref02_words.f k a0=some r) :
 Calls Tryd.prog 60 #[.string a0] w fun e w'=>∃ v0_:Value,e=.returned (v0_)∧Kd.R (Kd.int .i64) 3 w' w.heap.size (fun _=>True) v0_ r∧Below w.heap.size w w':=by
 have HB:=zK (Below.refl w.heap.size w)
 have H:(legateref02_words.l0 k a0 ([]:List Int) 0)=some r:=h
 clear h
 have H':=zK H
 clear H
 go_enter Tryd.func60,Tryd.ntmps60
 go_wp2
 go_loopg [3,4] k (fun kq v3 v4 w'=>∃ (x3_1:List Int) (x4_1:Int),v4=.int .i64 x4_1∧Aside0 (legateref02_words.l0 kq a0 x3_1 x4_1=some r)∧Aside0 (kq≤k)∧Aside0 (Kd.R (Kd.int .i64) 3 w' w.heap.size (fun _=>True) v3 x3_1)∧Aside0 (Below w.heap.size w w'))
 case atStart=>exact ⟨(([]:List Int)),(0),(by first|rfl|(simp; done)|(simp [*]; done)),H',⟨Nat.le_refl _⟩,⟨by first|exact Kd.R_nil _ _ _ _ _|exact Kd.N_nil _ _ _ _ _|exact Kd.V_nil _ _ _ _ _|exact Kd.Q_nil _ _ _ _ _|exact Kd.S_nil _ _ _ _ _⟩,⟨by repeat (first|(with_reducible first|exact HB.out|apply zA|apply zN|apply zD)|exact HB.out)⟩⟩
 case round =>
  clear H'
  obtain ⟨x3_1,x4_1,rfl,HA,HK1,HO_3,HB⟩:=hrel
  cases gk with
  | zero=>exact absurd HA.out (by simp [legateref02_words.l0])
  | succ k1 =>
   have H:=HA.out
   clear HA
   simp only [legateref02_words.l0] at H
   by_cases c2:(wrap64 (x4_1+3))<(a0.size:Int)
   case neg =>
    rw [if_neg c2] at H
    have c2b0:decide ((wrap64 (x4_1+3))<(a0.size:Int))=false:=decide_eq_false c2
    clear c2
    obtain rfl:=Option.some.inj H
    go_wp2
    go_ret
    exact ⟨_,by first|rfl|(simp [errW_none,errW_some]<;>rfl)|(simp [*,errW_none,errW_some]<;>rfl),by (with_reducible repeat (first|apply Kd.R_alloc|apply Kd.R_drewN|apply Kd.R_drew)); exact HO_3.out,by repeat (first|(with_reducible first|exact HB.out|apply zA|apply zN|apply zD)|exact HB.out)⟩
   rw [if_pos c2] at H
   have c2b0:decide ((wrap64 (x4_1+3))<(a0.size:Int))=true:=decide_eq_true c2
   clear c2
   by_cases c3:0≤x4_1
   case neg =>
    rw [if_neg c3] at H
    exact absurd H (by simp)
   rw [if_pos c3] at H
   have c3b0:decide (0≤x4_1)=true:=decide_eq_true c3
   clear c3
   by_cases c4:x4_1<(a0.size:Int)
   case neg =>
    rw [if_neg c4] at H
    exact absurd H (by simp)
   rw [if_pos c4] at H
   have c4b0:decide (x4_1<(a0.size:Int))=true:=decide_eq_true c4
   clear c4
   obtain ⟨ji6,hji6⟩:∃ j_:Int,(wrap64 (x4_1+1))=j_:=⟨_,rfl⟩
   replace H:(if 0≤(ji6) then (if (ji6)<(a0.size:Int) then (if 0≤(wrap64 (x4_1+2)) then (if (wrap64 (x4_1+2))<(a0.size:Int) then (if 0≤(wrap64 (x4_1+3)) then (if x3_1.length<17592186044416 then (legateref02_words.l0 k1 a0 (x3_1++[wrap64 ((wrap64 ((wrap64 ((wrap64 ((wrap64 (bt a0 x4_1)) * 16777216))+(wrap64 ((wrap64 (bt a0 (ji6))) * 65536))))+(wrap64 ((wrap64 (bt a0 (wrap64 (x4_1+2)))) * 256))))+(wrap64 (bt a0 (wrap64 (x4_1+3)))))]) (wrap64 (x4_1+4))) else (none)) else (none)) else (none)) else (none)) else (none)) else (none))=some r:=by first|(rw [hji6] at H; exact H)|(simp only [hji6] at H ⊢; exact H)
   have hji6w:(IntKind.i64.wrap (x4_1+1))=ji6:=(i64_w _).trans hji6
   by_cases c7:0≤(ji6)
   case neg =>
    rw [if_neg c7] at H
    exact absurd H (by simp)
   rw [if_pos c7] at H
   have c7b0:decide (0≤(ji6))=true:=decide_eq_true c7
   have c7b0z:=c7b0
   (try simp only [ByteArray.size_append,Int.natCast_add] at c7b0z)
   clear c7
   by_cases c8:(ji6)<(a0.size:Int)
   case neg =>
    rw [if_neg c8] at H
    exact absurd H (by simp)
   rw [if_pos c8] at H
   have c8b0:decide ((ji6)<(a0.size:Int))=true:=decide_eq_true c8
   clear c8
   obtain ⟨ji10,hji10⟩:∃ j_:Int,(wrap64 (x4_1+2))=j_:=⟨_,rfl⟩
   replace H:(if 0≤(ji10) then (if (ji10)<(a0.size:Int) then (if 0≤(wrap64 (x4_1+3)) then (if x3_1.length<17592186044416 then (legateref02_words.l0 k1 a0 (x3_1++[wrap64 ((wrap64 ((wrap64 ((wrap64 ((wrap64 (bt a0 x4_1)) * 16777216))+(wrap64 ((wrap64 (bt a0 (ji6))) * 65536))))+(wrap64 ((wrap64 (bt a0 (ji10))) * 256))))+(wrap64 (bt a0 (wrap64 (x4_1+3)))))]) (wrap64 (x4_1+4))) else (none)) else (none)) else (none)) else (none))=some r:=by first|(rw [hji10] at H; exact H)|(simp only [hji10] at H ⊢; exact H)
   have hji10w:(IntKind.i64.wrap (x4_1+2))=ji10:=(i64_w _).trans hji10
   by_cases c11:0≤(ji10)
   case neg =>
    rw [if_neg c11] at H
    exact absurd H (by simp)
   rw [if_pos c11] at H
   have c11b0:decide (0≤(ji10))=true:=decide_eq_true c11
   have c11b0z:=c11b0
   (try simp only [ByteArray.size_append,Int.natCast_add] at c11b0z)
   clear c11
   by_cases c12:(ji10)<(a0.size:Int)
   case neg =>
    rw [if_neg c12] at H
    exact absurd H (by simp)
   rw [if_pos c12] at H
   have c12b0:decide ((ji10)<(a0.size:Int))=true:=decide_eq_true c12
   clear c12
   obtain ⟨ji14,hji14⟩:∃ j_:Int,(wrap64 (x4_1+3))=j_:=⟨_,rfl⟩
   replace H:(if 0≤(ji14) then (if x3_1.length<17592186044416 then (legateref02_words.l0 k1 a0 (x3_1++[wrap64 ((wrap64 ((wrap64 ((wrap64 ((wrap64 (bt a0 x4_1)) * 16777216))+(wrap64 ((wrap64 (bt a0 (ji6))) * 65536))))+(wrap64 ((wrap64 (bt a0 (ji10))) * 256))))+(wrap64 (bt a0 (ji14))))]) (wrap64 (x4_1+4))) else (none)) else (none))=some r:=by first|(rw [hji14] at H; exact H)|(simp only [hji14] at H ⊢; exact H)
   (try rw [hji14] at c2b0)
   have hji14w:(IntKind.i64.wrap (x4_1+3))=ji14:=(i64_w _).trans hji14
   by_cases c15:0≤(ji14)
   case neg =>
    rw [if_neg c15] at H
    exact absurd H (by simp)
   rw [if_pos c15] at H
   have c15b0:decide (0≤(ji14))=true:=decide_eq_true c15
   have c15b0z:=c15b0
   (try simp only [ByteArray.size_append,Int.natCast_add] at c15b0z)
   clear c15
   by_cases c17:x3_1.length<17592186044416
   case neg =>
    rw [if_neg c17] at H
    exact absurd H (by simp)
   rw [if_pos c17] at H
   have LMc17:=zK c17
   clear c17
   obtain ⟨y166,hy166⟩:∃ y_:List Int,y_=(x3_1++[wrap64 ((wrap64 ((wrap64 ((wrap64 ((wrap64 (bt a0 x4_1)) * 16777216))+(wrap64 ((wrap64 (bt a0 (ji6))) * 65536))))+(wrap64 ((wrap64 (bt a0 (ji10))) * 256))))+(wrap64 (bt a0 (ji14))))]):=⟨_,rfl⟩
   replace H:(legateref02_words.l0 k1 a0 y166 (wrap64 (x4_1+4)))=some r:=by first|(rw [hy166]; with_reducible exact H)|(have H2_:=(Option.bind_some _ _).symm.trans H; rw [hy166]; with_reducible exact H2_)|(have H2_:=(Option.bind_some _ _).symm.trans H; with_reducible exact H2_)|with_reducible exact H|(rw [hy166]; exact H)|exact H
   have Ny166:=zK hy166
   clear hy166
   have H':=zK H
   clear H
   try go_wp2
   have n0_:=zK (Kd.R_drew HO_3.out)
   have n1_:=zK (zD HB.out)
   clear HO_3
   clear HB
   have HO_3:=n0_
   have HB:=n1_
   clear n0_ n1_
   have p5:0≤(x4_1:Int):=of_decide_eq_true (by first|(with_reducible assumption)|assumption)
   have q5:x4_1<(a0.size:Int):=of_decide_eq_true (by first|(with_reducible assumption)|assumption)
   have hx5:=bt_at a0 x4_1
   replace p5:=eq_true p5
   replace q5:=eq_true q5
   have p9:0≤((ji6):Int):=of_decide_eq_true (by first|(with_reducible assumption)|assumption)
   have q9:(ji6)<(a0.size:Int):=of_decide_eq_true (by first|(with_reducible assumption)|assumption)
   have hx9:=bt_at a0 (ji6)
   replace p9:=eq_true p9
   replace q9:=eq_true q9
   have p13:0≤((ji10):Int):=of_decide_eq_true (by first|(with_reducible assumption)|assumption)
   have q13:(ji10)<(a0.size:Int):=of_decide_eq_true (by first|(with_reducible assumption)|assumption)
   have hx13:=bt_at a0 (ji10)
   replace p13:=eq_true p13
   replace q13:=eq_true q13
   have p16:0≤((ji14):Int):=of_decide_eq_true (by first|(with_reducible assumption)|assumption)
   have q16:(ji14)<(a0.size:Int):=of_decide_eq_true (by first|(with_reducible assumption)|assumption)
   have hx16:=bt_at a0 (ji14)
   replace p16:=eq_true p16
   replace q16:=eq_true q16
   refine start_ (n:=29) (S:=fun w'=>True) (ds:=[]) #[G,G,G,G,G,G,G,G,G,G,G,G,G,G,G,G,G,G,G,G,G,G,G,G,G,G,G,G,G] (by kernel_rfl) rfl rfl trivial (fun hHeld=>?_); refine with_tabW legateref02_words.tab5 legateref02_words.bits5 (fun HT_ HW_=>?_)
   generalize wr.drew=w18 at HO_3 HB hHeld ⊢
   refine zq 0 (some 12) ?_ #[O,G,G,G,G,G,G,G,G,G,G,G,G,G,G,G,G,G,G,G,G,G,G,G,G,G,G,G,G] rfl rfl (any_of HT_.out (by kernel_rfl)) (fun _ _ _ h=>h) (Or.inl ⟨by rfl,?_⟩) ?_ ?_ ?_
   rotate_left;(intro w';go_simp;with_reducible rfl);rotate_left;(simp only [Act.put,zp];rfl)
   refine zq 1 (some 13) ?_ #[O,O,G,G,G,G,G,G,G,G,G,G,G,G,G,G,G,G,G,G,G,G,G,G,G,G,G,G,G] rfl rfl (any_of HT_.out (by kernel_rfl)) (fun _ _ _ h=>h) (Or.inl ⟨by rfl,?_⟩) ?_ ?_ ?_
   rotate_left;(intro w';go_simp;with_reducible rfl);rotate_left;(simp only [Act.put,zp];rfl)
   refine zq 2 (some 14) ?_ #[O,O,O,G,G,G,G,G,G,G,G,G,G,G,G,G,G,G,G,G,G,G,G,G,G,G,G,G,G] rfl rfl (any_of HT_.out (by kernel_rfl)) (fun _ _ _ h=>h) (Or.inl ⟨by rfl,?_⟩) ?_ ?_ ?_
   rotate_left;(intro w';go_simp;with_reducible rfl);rotate_left;(simp only [Act.put,zp];rfl)
   refine zq 6 (some 18) ?_ #[O,O,O,G,G,G,O,G,G,G,G,G,G,G,G,G,G,G,G,G,G,G,G,G,G,G,G,G,G] rfl rfl (any_of HT_.out (by kernel_rfl)) (fun _ _ _ h=>h) (Or.inl ⟨by rfl,?_⟩) ?_ ?_ ?_
   rotate_left;(intro w';go_simp;with_reducible rfl);rotate_left;(simp only [Act.put,zp];rfl)
   refine zq 7 (some 19) ?_ #[O,O,O,G,G,G,O,O,G,G,G,G,G,G,G,G,G,G,G,G,G,G,G,G,G,G,G,G,G] rfl rfl (any_of HT_.out (by kernel_rfl)) (fun _ _ _ h=>h) (Or.inl ⟨by rfl,?_⟩) ?_ ?_ ?_
   rotate_left;(intro w';go_simp;with_reducible rfl);rotate_left;(simp only [Act.put,zp];rfl)
   refine zq 8 (some 20) ?_ #[O,O,O,G,G,G,O,O,O,G,G,G,G,G,G,G,G,G,G,G,G,G,G,G,G,G,G,G,G] rfl rfl (any_of HT_.out (by kernel_rfl)) (fun _ _ _ h=>h) (Or.inl ⟨by rfl,?_⟩) ?_ ?_ ?_
   rotate_left;(intro w';go_simp;with_reducible rfl);rotate_left;(simp only [Act.put,zp];rfl)
   refine zq 13 (some 25) ?_ #[O,O,O,G,G,G,O,O,O,G,G,G,G,O,G,G,G,G,G,G,G,G,G,G,G,G,G,G,G] rfl rfl (any_of HT_.out (by kernel_rfl)) (fun _ _ _ h=>h) (Or.inl ⟨by rfl,?_⟩) ?_ ?_ ?_
   rotate_left;(intro w';go_simp;with_reducible rfl);rotate_left;(simp only [Act.put,zp];rfl)
   refine zq 14 (some 26) ?_ #[O,O,O,G,G,G,O,O,O,G,G,G,G,O,O,G,G,G,G,G,G,G,G,G,G,G,G,G,G] rfl rfl (any_of HT_.out (by kernel_rfl)) (fun _ _ _ h=>h) (Or.inl ⟨by rfl,?_⟩) ?_ ?_ ?_
   rotate_left;(intro w';go_simp;with_reducible rfl);rotate_left;(simp only [Act.put,zp];rfl)
   refine zq 15 (some 27) ?_ #[O,O,O,G,G,G,O,O,O,G,G,G,G,O,O,O,G,G,G,G,G,G,G,G,G,G,G,G,G] rfl rfl (any_of HT_.out (by kernel_rfl)) (fun _ _ _ h=>h) (Or.inl ⟨by rfl,?_⟩) ?_ ?_ ?_
   rotate_left;(intro w';go_simp;with_reducible rfl);rotate_left;(simp only [Act.put,zp];rfl)
   refine zq 20 (some 32) ?_ #[O,O,O,G,G,G,O,O,O,G,G,G,G,O,O,O,G,G,G,G,O,G,G,G,G,G,G,G,G] rfl rfl (any_of HT_.out (by kernel_rfl)) (fun _ _ _ h=>h) (Or.inl ⟨by rfl,?_⟩) ?_ ?_ ?_
   rotate_left;(intro w';go_simp;with_reducible rfl);rotate_left;(simp only [Act.put,zp];rfl)
   refine zq 21 (some 33) ?_ #[O,O,O,G,G,G,O,O,O,G,G,G,G,O,O,O,G,G,G,G,O,O,G,G,G,G,G,G,G] rfl rfl (any_of HT_.out (by kernel_rfl)) (fun _ _ _ h=>h) (Or.inl ⟨by rfl,?_⟩) ?_ ?_ ?_
   rotate_left;(intro w';go_simp;with_reducible rfl);rotate_left;(simp only [Act.put,zp];rfl)
   refine zq 22 (some 34) ?_ #[O,O,O,G,G,G,O,O,O,G,G,G,G,O,O,O,G,G,G,G,O,O,O,G,G,G,G,G,G] rfl rfl (any_of HT_.out (by kernel_rfl)) (fun _ _ _ h=>h) (Or.inl ⟨by rfl,?_⟩) ?_ ?_ ?_
   rotate_left;(intro w';go_simp;with_reducible rfl);rotate_left;(simp only [Act.put,zp];rfl)
   refine take_ (i:=3) (N:=some 15) (v:=?_) (a':=?_) #[O,O,O,O,G,G,O,O,O,G,G,G,G,O,O,O,G,G,G,G,O,O,O,G,G,G,G,G,G] rfl rfl (take_ofW HT_.out HW_.out (by kernel_rfl)) (fun _ _ _ h=>h) (Or.inl ⟨by rfl,?_⟩) hHeld ?_ ?_
   rotate_left
   ·intro w' _
    go_simp
    with_reducible rfl
   rotate_left
   ·simp only [Act.put,zp]
    rfl
   refine zq 4 (some 16) ?_ #[O,O,O,O,O,G,O,O,O,G,G,G,G,O,O,O,G,G,G,G,O,O,O,G,G,G,G,G,G] rfl rfl (any_of HT_.out (by kernel_rfl)) (fun _ _ _ h=>h) (Or.inl ⟨by rfl,?_⟩) ?_ ?_ ?_
   rotate_left;(intro w';go_simp;with_reducible rfl);rotate_left;(simp only [Act.put,zp];rfl)
   refine zq 5 (some 17) ?_ #[O,O,O,O,O,O,O,O,O,G,G,G,G,O,O,O,G,G,G,G,O,O,O,G,G,G,G,G,G] rfl rfl (any_of HT_.out (by kernel_rfl)) (fun _ _ _ h=>h) (Or.inl ⟨by rfl,?_⟩) ?_ ?_ ?_
   rotate_left;(intro w';go_simp;with_reducible rfl);rotate_left;(simp only [Act.put,zp];rfl)
   refine take_ (i:=9) (N:=some 21) (v:=?_) (a':=?_) #[O,O,O,O,O,O,O,O,O,O,G,G,G,O,O,O,G,G,G,G,O,O,O,G,G,G,G,G,G] rfl rfl (take_ofW HT_.out HW_.out (by kernel_rfl)) (fun _ _ _ h=>h) (Or.inl ⟨by rfl,?_⟩) hHeld ?_ ?_
   rotate_left
   ·intro w' _
    go_simp
    with_reducible rfl
   rotate_left
   ·simp only [Act.put,zp]
    rfl
   refine zq 10 (some 22) ?_ #[O,O,O,O,O,O,O,O,O,O,O,G,G,O,O,O,G,G,G,G,O,O,O,G,G,G,G,G,G] rfl rfl (any_of HT_.out (by kernel_rfl)) (fun _ _ _ h=>h) (Or.inl ⟨by rfl,?_⟩) ?_ ?_ ?_
   rotate_left;(intro w';go_simp;with_reducible rfl);rotate_left;(simp only [Act.put,zp];rfl)
   refine zq 11 (some 23) ?_ #[O,O,O,O,O,O,O,O,O,O,O,O,G,O,O,O,G,G,G,G,O,O,O,G,G,G,G,G,G] rfl rfl (any_of HT_.out (by kernel_rfl)) (fun _ _ _ h=>h) (Or.inl ⟨by rfl,?_⟩) ?_ ?_ ?_
   rotate_left;(intro w';go_simp;with_reducible rfl);rotate_left;(simp only [Act.put,zp];rfl)
   refine zq 12 (some 24) ?_ #[O,O,O,O,O,O,O,O,O,O,O,O,O,O,O,O,G,G,G,G,O,O,O,G,G,G,G,G,G] rfl rfl (any_of HT_.out (by kernel_rfl)) (fun _ _ _ h=>h) (Or.inl ⟨by rfl,?_⟩) ?_ ?_ ?_
   rotate_left;(intro w';go_simp;with_reducible rfl);rotate_left;(simp only [Act.put,zp];rfl)
   refine take_ (i:=16) (N:=some 28) (v:=?_) (a':=?_) #[O,O,O,O,O,O,O,O,O,O,O,O,O,O,O,O,O,G,G,G,O,O,O,G,G,G,G,G,G] rfl rfl (take_ofW HT_.out HW_.out (by kernel_rfl)) (fun _ _ _ h=>h) (Or.inl ⟨by rfl,?_⟩) hHeld ?_ ?_
   rotate_left
   ·intro w' _
    go_simp
    with_reducible rfl
   rotate_left
   ·simp only [Act.put,zp]
    rfl
   refine zq 17 (some 29) ?_ #[O,O,O,O,O,O,O,O,O,O,O,O,O,O,O,O,O,O,G,G,O,O,O,G,G,G,G,G,G] rfl rfl (any_of HT_.out (by kernel_rfl)) (fun _ _ _ h=>h) (Or.inl ⟨by rfl,?_⟩) ?_ ?_ ?_
   rotate_left;(intro w';go_simp;with_reducible rfl);rotate_left;(simp only [Act.put,zp];rfl)
   refine zq 18 (some 30) ?_ #[O,O,O,O,O,O,O,O,O,O,O,O,O,O,O,O,O,O,O,G,O,O,O,G,G,G,G,G,G] rfl rfl (any_of HT_.out (by kernel_rfl)) (fun _ _ _ h=>h) (Or.inl ⟨by rfl,?_⟩) ?_ ?_ ?_
   rotate_left;(intro w';go_simp;with_reducible rfl);rotate_left;(simp only [Act.put,zp];rfl)
   refine zq 19 (some 31) ?_ #[O,O,O,O,O,O,O,O,O,O,O,O,O,O,O,O,O,O,O,O,O,O,O,G,G,G,G,G,G] rfl rfl (any_of HT_.out (by kernel_rfl)) (fun _ _ _ h=>h) (Or.inl ⟨by rfl,?_⟩) ?_ ?_ ?_
   rotate_left;(intro w';go_simp;with_reducible rfl);rotate_left;(simp only [Act.put,zp];rfl)
   refine take_ (i:=23) (N:=some 35) (v:=?_) (a':=?_) #[O,O,O,O,O,O,O,O,O,O,O,O,O,O,O,O,O,O,O,O,O,O,O,O,G,G,G,G,G] rfl rfl (take_ofW HT_.out HW_.out (by kernel_rfl)) (fun _ _ _ h=>h) (Or.inl ⟨by rfl,?_⟩) hHeld ?_ ?_
   rotate_left
   ·intro w' _
    go_simp
    with_reducible rfl
   rotate_left
   ·simp only [Act.put,zp]
    rfl
   refine zq 24 (some 36) ?_ #[O,O,O,O,O,O,O,O,O,O,O,O,O,O,O,O,O,O,O,O,O,O,O,O,O,G,G,G,G] rfl rfl (any_of HT_.out (by kernel_rfl)) (fun _ _ _ h=>h) (Or.inl ⟨by rfl,?_⟩) ?_ ?_ ?_
   rotate_left;(intro w';go_simp;with_reducible rfl);rotate_left;(simp only [Act.put,zp];rfl)
   refine zq 25 (some 37) ?_ #[O,O,O,O,O,O,O,O,O,O,O,O,O,O,O,O,O,O,O,O,O,O,O,O,O,O,G,G,G] rfl rfl (any_of HT_.out (by kernel_rfl)) (fun _ _ _ h=>h) (Or.inl ⟨by rfl,?_⟩) ?_ ?_ ?_
   rotate_left;(intro w';go_simp;with_reducible rfl);rotate_left;(simp only [Act.put,zp];rfl)
   refine one_ (i:=26) (N:=some 38) #[O,O,O,O,O,O,O,O,O,O,O,O,O,O,O,O,O,O,O,O,O,O,O,O,O,O,O,G,G] rfl rfl (one_of HT_.out (by kernel_rfl)) (by decide) (fun K hK=>?_)
   refine value_ (w1:=?_) (v:=?_) (by rfl) rfl ?_ ?_
   rotate_left 2
   ·go_simp
    constructor
    ·rfl
    ·rfl
   refine hK.out _ _ trivial (fun hHeld=>?_)
   clear hK K
   refine norm_ (a':=?_) ?_ ?_
   rotate_left
   ·show Act.put _ (some 38) _=_
    simp only [Act.put,zp]
    rfl
   refine one_ (i:=27) (N:=some 39) #[O,O,O,O,O,O,O,O,O,O,O,O,O,O,O,O,O,O,O,O,O,O,O,O,O,O,O,O,G] rfl rfl (one_of HT_.out (by kernel_rfl)) (by decide) (fun K hK=>?_)
   refine Kd.R_append_step (Kd.int .i64) (w0:=w) w.heap.size (by rfl) (.tmp 12) (.tmp 38) 27 3 (.int .i64 0) 8 rfl Tryd.underlying27 info3 rfl (by decide) (by omega) u3 x3_1 (wrap64 ((wrap64 ((wrap64 ((wrap64 ((wrap64 (bt a0 x4_1)) * 16777216))+(wrap64 ((wrap64 (bt a0 (ji6))) * 65536))))+(wrap64 ((wrap64 (bt a0 (ji10))) * 256))))+(wrap64 (bt a0 (ji14))))) [.int .i64 (wrap64 ((wrap64 ((wrap64 ((wrap64 ((wrap64 (bt a0 x4_1)) * 16777216))+(wrap64 ((wrap64 (bt a0 (ji6))) * 65536))))+(wrap64 ((wrap64 (bt a0 (ji10))) * 256))))+(wrap64 (bt a0 (ji14)))))] (fun _=>True) (fun _=>False) rfl rfl ?aP (fun _ hk=>hk.elim) ?aF ?aO ?aB ?aS ?aL ?_
   (case aP=>exact rfl)
   (case aB=>exact (by repeat (first|(with_reducible first|exact HB.out|apply zA|apply zN|apply zD)|exact HB.out)))
   (case aF=>exact (fun _ _=>trivial))
   (case aO=>exact (by (with_reducible repeat (first|apply Kd.R_alloc|apply Kd.R_drewN|apply Kd.R_drew)); exact HO_3.out))
   (case aS=>exact (below_size (by repeat (first|(with_reducible first|exact HB.out|apply zA|apply zN|apply zD)|exact HB.out))))
   (case aL=>have:=LMc17.out; omega)
   intro v167 w19 ho hb hg hat
   rw [← Ny166.out] at ho
   have n0_:=zK (hb)
   have n1_:=zK (ho)
   clear HB
   clear HO_3
   have HB:=n0_
   have HO168:=n1_
   clear n0_ n1_
   clear ho hb hg hat
   refine hK.out _ _ trivial (fun hHeld=>?_)
   clear hK K
   refine norm_ (a':=?_) ?_ ?_
   rotate_left
   ·show Act.put _ (some 39) _=_
    simp only [Act.put,zp]
    rfl
   refine zq 28 (some 3) ?_ #[O,O,O,O,O,O,O,O,O,O,O,O,O,O,O,O,O,O,O,O,O,O,O,O,O,O,O,O,O] rfl rfl (any_of HT_.out (by kernel_rfl)) (fun _ _ _ h=>h) (Or.inl ⟨by rfl,?_⟩) ?_ ?_ ?_
   rotate_left;(intro w';go_simp;with_reducible rfl);rotate_left;(simp only [Act.put,zp];rfl)
   refine done_ (done_of HT_.out (by kernel_rfl)) ?_
   try go_wp2
   go_roundg k1
   case measure=>have:=HK1.out; omega
   case rel=>exact ⟨(y166),(wrap64 (x4_1+4)),(by first|rfl|(simp; done)|(simp [*]; done)),H',⟨by have:=HK1.out; omega⟩,⟨by (with_reducible repeat (first|apply Kd.R_alloc|apply Kd.R_drewN|apply Kd.R_drew)); exact HO168.out⟩,⟨by repeat (first|(with_reducible first|exact HB.out|apply zA|apply zN|apply zD)|exact HB.out)⟩⟩
end Go.Proofs.YtkgijkfcmbpgpaaDoor.PAll
end
