import Derived.Test.YtkgijkfcmbpgpaaDoorS2b0
import Derived.Test.YtkgijkfcmbpgpaaDoorS2b1
import Derived.Test.YtkgijkfcmbpgpaaDoorS2b15
import Derived.Test.YtkgijkfcmbpgpaaDoorS2b16
import Derived.Test.YtkgijkfcmbpgpaaDoorS2b2
import Derived.Test.YtkgijkfcmbpgpaaDoorS2b3
import Derived.Test.YtkgijkfcmbpgpaaDoorS2b4
import Derived.Test.YtkgijkfcmbpgpaaDoorS2b8
import Derived.Test.YtkgijkfcmbpgpaaDoorS2b9
section
namespace Go.Proofs.YtkgijkfcmbpgpaaDoor.PAll
open Go.RowKit Go.Proofs.YtkgijkfcmbpgpaaDoorW.PrintWords Go.Proofs.YtkgijkfcmbpgpaaDoorW.PrintLast Go.Proofs.YtkgijkfcmbpgpaaDoorW.PrintMore
open Go.Proofs.YtkgijkfcmbpgpaaDoor.Giv
attribute [local go_sem] max2_int min2_int max_two min_two max_three min_three max_four min_four
set_option linter.unusedVariables false
set_option linter.unusedSimpArgs false
def legateref06_number.l0:Nat→List Int→Int→Int→Option (ByteArray)
  | 0,_,_,_=>none
  | k+1,x3,x4,x5=>if x5≥0 then (if 0≤x5 then (if x5<(x3.length:Int) then (legateref06_number.l0 k (x3.set (x5:Int).toNat ((Int.tmod x4 256) % 256)) (IntKind.u64.wrap (Int.tdiv x4 256)) (wrap64 (x5 - 1))) else (none)) else (none)) else (some (strOfNums x3))
def legateref06_number.f (k:Nat) (a0:Int):Option (ByteArray):=if 8≤281474976710656 then (legateref06_number.l0 k (List.replicate 8 0) (IntKind.u64.wrap (a0)) 7) else (none)
set_option maxHeartbeats 8000000 in
set_option maxRecDepth 100000 in
theorem legateref06_number.calls (k:Nat) (a0:Int) (r:ByteArray) (w:World) (h:legateref06_number.f k a0=some r) :
 Calls Tryd.prog 72 #[.int .i64 a0] w fun e w'=>e=.returned (.string r)∧Below w.heap.size w w':=by
 have HB:=zK (Below.refl w.heap.size w)
 have H:(if 8≤281474976710656 then (legateref06_number.l0 k (List.replicate 8 0) (IntKind.u64.wrap (a0)) 7) else (none))=some r:=h
 clear h
 by_cases c2:8≤281474976710656
 case neg =>
  rw [if_neg c2] at H
  exact absurd H (by simp)
 rw [if_pos c2] at H
 have c2b0:=eq_true c2
 have c2b1:decide (8≤281474976710656)=true:=decide_eq_true c2
 clear c2
 obtain ⟨y387,hy387⟩:∃ y_:List Int,y_=(List.replicate 8 0):=⟨_,rfl⟩
 replace H:(legateref06_number.l0 k y387 (IntKind.u64.wrap (a0)) 7)=some r:=by first|(rw [hy387]; with_reducible exact H)|(have H2_:=(Option.bind_some _ _).symm.trans H; rw [hy387]; with_reducible exact H2_)|(have H2_:=(Option.bind_some _ _).symm.trans H; with_reducible exact H2_)|with_reducible exact H|(rw [hy387]; exact H)|exact H
 have Ny387:=zK hy387
 clear hy387
 have H':=zK H
 clear H
 go_enter Tryd.func72,Tryd.ntmps72
 go_wp2_with (first|((with_reducible refine gate_dst (N:=6) rfl ?_); refine Kd.R_make (Kd.int .u8) _ 5 rfl (N:=6) rfl 44 _ _ rfl 8 rfl rfl Tryd.underlying44 (.int .u8 0) 1 info5 rfl (by decide) (by omega) 0 (ok:=fun _=>True) (okp:=fun _=>True) rfl (fun _ hk=>hk) trivial (by omega) (by omega) (Below.refl _ _) (Nat.le_refl _) ?_; intro v388 w3 ho4 hb hg_ hnew_; clear hg_ hnew_; (first|rw [← Ny387.out] at ho4|(simp only [Int.reduceToNat] at ho4; rw [← Ny387.out] at ho4)); have n0_:=zK (Kd.R_lower ho4 (below_size (by repeat (first|(with_reducible first|exact HB.out|apply zA|apply zN|apply zD)|exact HB.out)))); have n1_:=zK (below_step (by repeat (first|(with_reducible first|exact HB.out|apply zA|apply zN|apply zD)|exact HB.out)) hb); clear HB; have HO389:=n0_; have HB:=n1_; clear n0_ n1_; clear hb ho4))
 go_loopg [4,5] k (fun kq v4 v5 w'=>∃ (x3_1:List Int) (x4_1:Int) (x5_1:Int),v4=.int .u64 x4_1∧v5=.int .i64 x5_1∧Aside0 (legateref06_number.l0 kq x3_1 x4_1 x5_1=some r)∧Aside0 (kq≤k)∧Aside0 (Kd.R (Kd.int .u8) 5 w' w.heap.size (fun _=>True) v388 x3_1)∧Aside0 (Below w.heap.size w w'))
 case atStart=>exact ⟨(y387),(IntKind.u64.wrap (a0)),(7),(by first|rfl|(simp; done)|(simp [*]; done)),(by first|rfl|(simp; done)|(simp [*]; done)),H',⟨Nat.le_refl _⟩,⟨by (with_reducible repeat (first|apply Kd.R_alloc|apply Kd.R_drewN|apply Kd.R_drew)); exact HO389.out⟩,⟨by repeat (first|(with_reducible first|exact HB.out|apply zA|apply zN|apply zD)|exact HB.out)⟩⟩
 case round =>
  clear H'
  try clear c2
  try clear c2b0
  try clear c2b1
  try clear p2
  obtain ⟨x3_1,x4_1,x5_1,rfl,rfl,HA,HK1,HO_3,HB⟩:=hrel
  cases gk with
  | zero=>exact absurd HA.out (by simp [legateref06_number.l0])
  | succ k1 =>
   have H:=HA.out
   clear HA
   simp only [legateref06_number.l0] at H
   by_cases c5:x5_1≥0
   case neg =>
    rw [if_neg c5] at H
    have c5b0:decide (0≤x5_1)=false:=decide_eq_false c5
    clear c5
    obtain rfl:=Option.some.inj H
    have hcv11:=own_string (P:=Tryd.prog) Tryd.underlying44 Tryd.underlying5 Tryd.underlying9 (Kd.own_of_R HO_3.out)
    go_wp2
    go_ret
    exact ⟨by first|rfl|(simp [errW_none,errW_some]<;>rfl)|(simp [*,errW_none,errW_some]<;>rfl),by repeat (first|(with_reducible first|exact HB.out|apply zA|apply zN|apply zD)|exact HB.out)⟩
   rw [if_pos c5] at H
   have c5b0:decide (0≤x5_1)=true:=decide_eq_true c5
   clear c5
   by_cases c6:0≤x5_1
   case neg =>
    rw [if_neg c6] at H
    exact absurd H (by simp)
   rw [if_pos c6] at H
   have c6b0:decide (0≤x5_1)=true:=decide_eq_true c6
   clear c6
   by_cases c7:x5_1<(x3_1.length:Int)
   case neg =>
    rw [if_neg c7] at H
    exact absurd H (by simp)
   rw [if_pos c7] at H
   have c7b0:decide (x5_1<(x3_1.length:Int))=true:=decide_eq_true c7
   clear c7
   obtain ⟨y390,hy390⟩:∃ y_:List Int,y_=(x3_1.set (x5_1:Int).toNat ((Int.tmod x4_1 256) % 256)):=⟨_,rfl⟩
   replace H:(legateref06_number.l0 k1 y390 (IntKind.u64.wrap (Int.tdiv x4_1 256)) (wrap64 (x5_1 - 1)))=some r:=by first|(rw [hy390]; with_reducible exact H)|(have H2_:=(Option.bind_some _ _).symm.trans H; rw [hy390]; with_reducible exact H2_)|(have H2_:=(Option.bind_some _ _).symm.trans H; with_reducible exact H2_)|with_reducible exact H|(rw [hy390]; exact H)|exact H
   have Ny390:=zK hy390
   clear hy390
   have H':=zK H
   clear H
   have p8:0≤(x5_1:Int):=of_decide_eq_true (by first|(with_reducible assumption)|assumption)
   have q8:(x5_1:Int)<((x3_1.length:Int):Int):=of_decide_eq_true (by first|(with_reducible assumption)|assumption)
   obtain ⟨go8,co8,eo8,gb8,gl8,cl8,HG8⟩:=Kd.R_form HO_3.out (by omega)
   (first|cases eo8|(injection eo8 with ea_ en_ ec_; (first|subst ea_|(injection ea_ with ea_; subst ea_)); subst ec_; clear en_))
   have GB8:=zK gb8
   have GG8:=zK HG8
   clear gb8 gl8 HG8
   obtain ⟨hx8_0,hf8_0⟩:=Kd.R_celln 0 HO_3.out (x5_1:Int) p8 q8
   replace p8:=eq_true p8
   replace q8:=eq_true q8
   have HP9:=Kd.R_putg HO_3.out (x5_1:Int) ((Int.tmod x4_1 256) % 256)
   go_wp2_with (first|((with_reducible refine gate_store (t:=5) (p:=18) rfl ?_); refine store_event (t:=5) (p:=18) (v:=?vo_w10) (w1:=(wr.setCell ⟨go8,(x5_1:Int).toNat,none⟩ (.int .u8 ((Int.tmod x4_1 256) % 256)))) ?hg ?ho ?hn ?hr ?_; (case ho=>rfl); (case hg=>rfl); (case hn=>rfl); (case hr=>first|(go_simp; done)|(go_simp; rfl)); intro w10 hw; have hg:wr.grownBy w10 (some go8):=(by rw [hw]; exact HP9.2); have hp_:Kd.R (Kd.int .u8) 5 w10 w.heap.size (fun _=>True) (.slice (some ⟨go8,0,none⟩) x3_1.length co8) y390:=(by rw [hw,Ny390.out]; exact HP9.1); clear HP9; have n0_:=zK (hp_); have n1_:=zK ((by rw [hw]; exact below_set (HB.out) GB8.out:Below w.heap.size w w10)); clear HO_3; clear HB; have HO_3:=n0_; have HB:=n1_; clear n0_ n1_; clear hg hw hp_))
   go_roundg k1
   case measure=>have:=HK1.out; omega
   case rel=>exact ⟨(y390),(IntKind.u64.wrap (Int.tdiv x4_1 256)),(wrap64 (x5_1 - 1)),(by first|rfl|(simp; done)|(simp [*]; done)),(by first|rfl|(simp; done)|(simp [*]; done)),H',⟨by have:=HK1.out; omega⟩,⟨by (with_reducible repeat (first|apply Kd.R_alloc|apply Kd.R_drewN|apply Kd.R_drew)); exact HO_3.out⟩,⟨by repeat (first|(with_reducible first|exact HB.out|apply zA|apply zN|apply zD)|exact HB.out)⟩⟩
def legateref06_Key.f (k:Nat) (l0_0:List Int) (a0_1:ByteArray) (a1:ByteArray) (a2:Int) (a3:ByteArray):Option (ByteArray):=if a3.size+1≤9223372036854775807 then ((legateref06_number.f k a2).bind fun t392=>(if (a3++(⟨#[0]⟩:ByteArray)).size+t392.size≤9223372036854775807 then ((legateref03_Tables_Mac.f k l0_0 a0_1 a1 ((a3++(⟨#[0]⟩:ByteArray))++t392)).bind fun t393=>(some t393)) else (none))) else (none)
def legateref06_Key.T1:Bool×List (List Nat×List Nat):=(true,[([],[]),([],[]),([],[]),([2],[2]),([],[]),([4],[4]),([3,5],[3,5]),([0,1,6,5],[0,1,6]),([7,7,0,1,2,3,4,5,6,7],[7])])
def legateref06_Key.B1:List Nat:=[0,0,0,4,0,16,60,127,255]
theorem legateref06_Key.tab1:rtab .any (opsOf Tryd.f42 1)=legateref06_Key.T1:=by kernel_rfl
theorem legateref06_Key.bits1:waitsOk legateref06_Key.T1.2 legateref06_Key.B1=true:=by kernel_rfl
set_option maxHeartbeats 8000000 in
set_option maxRecDepth 100000 in
theorem legateref06_Key.calls (k:Nat) (A0_0:Option Addr) (c0_0:Nat) (l0_0:List Int) (a0_1:ByteArray) (a1:ByteArray) (a2:Int) (a3:ByteArray) (r:ByteArray) (w:World) (hr0_0:Kd.C (Kd.int .i64) w A0_0 l0_0.length l0_0) (hc0_0:l0_0.length≤c0_0) (h:legateref06_Key.f k l0_0 a0_1 a1 a2 a3=some r) :
 Calls Tryd.prog 42 #[.agg #[.slice A0_0 l0_0.length c0_0,.string a0_1],.string a1,.int .i64 a2,.string a3] w fun e w'=>e=.returned (.string r)∧Below w.heap.size w w':=by
 have hu42:=Tryd.underlying42
 have HR0_0:=zK hr0_0
 have HC0_0:=zK hc0_0
 clear hr0_0 hc0_0
 have HB:=zK (Below.refl w.heap.size w)
 have H:(if a3.size+1≤9223372036854775807 then ((legateref06_number.f k a2).bind fun t392=>(if (a3++(⟨#[0]⟩:ByteArray)).size+t392.size≤9223372036854775807 then ((legateref03_Tables_Mac.f k l0_0 a0_1 a1 ((a3++(⟨#[0]⟩:ByteArray))++t392)).bind fun t393=>(some t393)) else (none))) else (none))=some r:=h
 clear h
 by_cases c5:a3.size+1≤9223372036854775807
 case neg =>
  rw [if_neg c5] at H
  exact absurd H (by simp)
 rw [if_pos c5] at H
 have c5b0:=eq_true c5
 have c5b0z:=c5b0
 (try simp only [ByteArray.size_append,Int.natCast_add,show (⟨#[0]⟩:ByteArray).size=1 from rfl] at c5b0z)
 have c5b1:decide (a3.size+1≤9223372036854775807)=true:=decide_eq_true c5
 have c5b1z:=c5b1
 (try simp only [ByteArray.size_append,Int.natCast_add,show (⟨#[0]⟩:ByteArray).size=1 from rfl] at c5b1z)
 try have c5b2:(9223372036854775807<a3.size+1)=False:=eq_false (Nat.not_lt.2 c5)
 replace H:=Option.bind_eq_some_iff.mp H
 obtain ⟨t392,A60,H⟩:=H
 replace H:(if (a3++(⟨#[0]⟩:ByteArray)).size+t392.size≤9223372036854775807 then ((legateref03_Tables_Mac.f k l0_0 a0_1 a1 ((a3++(⟨#[0]⟩:ByteArray))++t392)).bind fun t393=>(some t393)) else (none))=some r:=H
 have A6:=zK A60
 clear A60
 by_cases c7:(a3++(⟨#[0]⟩:ByteArray)).size+t392.size≤9223372036854775807
 case neg =>
  rw [if_neg c7] at H
  exact absurd H (by simp)
 rw [if_pos c7] at H
 have c7b0:=eq_true c7
 have c7b0z:=c7b0
 (try simp only [ByteArray.size_append,Int.natCast_add,show (⟨#[0]⟩:ByteArray).size=1 from rfl] at c7b0z)
 have c7b1:decide ((a3++(⟨#[0]⟩:ByteArray)).size+t392.size≤9223372036854775807)=true:=decide_eq_true c7
 have c7b1z:=c7b1
 (try simp only [ByteArray.size_append,Int.natCast_add,show (⟨#[0]⟩:ByteArray).size=1 from rfl] at c7b1z)
 try have c7b2:(9223372036854775807<(a3++(⟨#[0]⟩:ByteArray)).size+t392.size)=False:=eq_false (Nat.not_lt.2 c7)
 have c7b2z:=c7b2
 (try simp only [ByteArray.size_append,Int.natCast_add,show (⟨#[0]⟩:ByteArray).size=1 from rfl] at c7b2z)
 replace H:=Option.bind_eq_some_iff.mp H
 obtain ⟨t393,A80,H⟩:=H
 replace H:(some t393)=some r:=H
 have A8:=zK A80
 clear A80
 obtain rfl:=Option.some.inj H
 go_enter Tryd.func42,Tryd.ntmps42
 try go_wp2_with (first|((with_reducible refine gate_dst (N:=4) rfl ?_); refine box_event ?hg (N:=4) ?hd (cs:=#[.slice A0_0 l0_0.length c0_0,.string a0_1]) (t:=42) ?hr ?_; (case hd=>rfl); (case hg=>rfl); (case hr=>first|(go_simp; done)|(go_simp; rfl)); intro gb391 hg w9 hbox hb; have n0_:=zK (below_step (by repeat (first|(with_reducible first|exact HB.out|apply zA|apply zN|apply zD)|exact HB.out)) hb); have n1_:=zK (hbox); have n2_:=zK ((by rw [hg]; exact (below_size (by repeat (first|(with_reducible first|exact HB.out|apply zA|apply zN|apply zD)|exact HB.out))):w.heap.size≤gb391)); have n3_:=zK ((by rw [hg]; exact (below_size (by repeat (first|(with_reducible first|exact HB.out|apply zA|apply zN|apply zD)|exact HB.out))):w.heap.size≤gb391)); clear HB; have HB:=n0_; have BK391:=n1_; have GW391:=n2_; have GE391:=n3_; clear n0_ n1_ n2_ n3_; clear hb hbox hg))
 have n0_:=zK (blk_drew BK391.out)
 have n1_:=zK (zD HB.out)
 clear BK391
 clear HB
 have BK391:=n0_
 have HB:=n1_
 clear n0_ n1_
 refine start_ (n:=9) (S:=fun w'=>w'.cell? ⟨gb391,0,none⟩=some (.slice A0_0 l0_0.length c0_0)∧w'.cell? ⟨gb391,1,none⟩=some (.string a0_1)) (ds:=[]) #[G,G,G,G,G,G,G,G,G] (by kernel_rfl) rfl rfl ⟨(blk_cell BK391.out 0).trans rfl,(blk_cell BK391.out 1).trans rfl⟩ (fun hHeld=>?_); refine with_tabW legateref06_Key.tab1 legateref06_Key.bits1 (fun HT_ HW_=>?_)
 generalize w9.drew=w10 at BK391 HB hHeld ⊢
 refine zq 1 (some 10) ?_ #[G,O,G,G,G,G,G,G,G] rfl rfl (any_of HT_.out (by kernel_rfl)) (fun _ _ _ h=>h) (Or.inl ⟨by rfl,?_⟩) ?_ ?_ ?_
 rotate_left;(intro w';go_simp;with_reducible rfl);rotate_left;(simp only [Act.put,zp];rfl)
 refine zq 2 (some 11) ?_ #[G,O,O,G,G,G,G,G,G] rfl rfl (any_of HT_.out (by kernel_rfl)) (fun _ _ _ h=>h) (Or.inl ⟨by rfl,?_⟩) ?_ ?_ ?_
 rotate_left;(intro w';go_simp;with_reducible rfl);rotate_left;(simp only [Act.put,zp];rfl)
 refine zq 3 (some 12) ?_ #[G,O,O,O,G,G,G,G,G] rfl rfl (any_of HT_.out (by kernel_rfl)) (fun _ _ _ h=>h) (Or.inl ⟨by rfl,?_⟩) ?_ ?_ ?_
 rotate_left;(intro w';go_simp;with_reducible rfl);rotate_left;(simp only [Act.put,zp];rfl)
 refine zq 4 (some 13) ?_ #[G,O,O,O,O,G,G,G,G] rfl rfl (any_of HT_.out (by kernel_rfl)) (fun _ _ _ h=>h) (Or.inl ⟨by rfl,?_⟩) ?_ ?_ ?_
 rotate_left;(intro w';go_simp;with_reducible rfl);rotate_left;(simp only [Act.put,zp];rfl)
 refine take_ (i:=0) (N:=some 9) (v:=?_) (a':=?_) #[O,O,O,O,O,G,G,G,G] rfl rfl (take_ofW HT_.out HW_.out (by kernel_rfl)) (fun _ _ _ h=>h) (Or.inl ⟨by rfl,?_⟩) hHeld ?_ ?_
 rotate_left
 ·rintro w' ⟨s0,s1⟩
  go_simp
  with_reducible rfl
 rotate_left
 ·simp only [Act.put,zp]
  rfl
 refine one_ (i:=5) (N:=some 14) #[O,O,O,O,O,O,G,G,G] rfl rfl (one_of HT_.out (by kernel_rfl)) (by decide) (fun K hK=>?_)
 refine goes_ Tryd.func72 (by kernel_rfl) rfl #[.int .i64 a2] (by rfl) rfl rfl (by (try simp only [zm]); first|done|rfl|(simp only [zl]; rfl)) ?_
 with_reducible refine (legateref06_number.calls k a2 t392 _ A6.out).mono ?_
 rintro e w11 ⟨rfl,hb⟩
 refine ⟨_,rfl,?_⟩
 have n0_:=zK (blk_below (g:=gb391) (o:=.cells #[.slice A0_0 l0_0.length c0_0,.string a0_1] 42 (0,0)) (by (with_reducible repeat (first|refine blk_drewN ?_ _|refine blk_drew ?_|refine blk_alloc ?_ _)); exact BK391.out) hb)
 have n1_:=zK (below_step (by repeat (first|(with_reducible first|exact HB.out|apply zA|apply zN|apply zD|refine below_set ?_ GE391.out)|exact HB.out)) hb)
 clear BK391
 clear HB
 have BK391:=n0_
 have HB:=n1_
 clear n0_ n1_
 (try clear hb)
 (try clear hb2)
 (try clear hk)
 (try clear hi)
 refine hK.out _ _ ⟨(blk_cell BK391.out 0).trans rfl,(blk_cell BK391.out 1).trans rfl⟩ (fun hHeld=>?_)
 clear hK K
 refine norm_ (a':=?_) ?_ ?_
 rotate_left
 ·show Act.put _ (some 14) _=_
  simp only [Act.put,zp]
  rfl
 refine zq 6 (some 15) ?_ #[O,O,O,O,O,O,O,G,G] rfl rfl (any_of HT_.out (by kernel_rfl)) (fun _ _ _ h=>h) (Or.inl ⟨by rfl,?_⟩) ?_ ?_ ?_
 rotate_left;(intro w';go_simp;with_reducible rfl);rotate_left;(simp only [Act.put,zp];rfl)
 refine one_ (i:=7) (N:=some 16) #[O,O,O,O,O,O,O,O,G] rfl rfl (one_of HT_.out (by kernel_rfl)) (by decide) (fun K hK=>?_)
 refine goes_ Tryd.func36 (by kernel_rfl) rfl #[.agg #[.slice A0_0 l0_0.length c0_0,.string a0_1],.string a1,.string ((a3++(⟨#[0]⟩:ByteArray))++t392)] (by rfl) rfl rfl (by (try simp only [zm]); first|done|rfl|(simp only [zl]; rfl)) ?_
 with_reducible refine (legateref03_Tables_Mac.calls k _ _ l0_0 a0_1 a1 ((a3++(⟨#[0]⟩:ByteArray))++t392) t393 _ ?side1 ?side2 A8.out).mono ?_
 (case side1=>repeat (first|exact (Kd.C_below HR0_0.out HB.out)|(with_reducible refine Kd.C_alloc ?_ _)|(with_reducible refine Kd.C_drewN ?_ _)|(with_reducible refine Kd.C_drew ?_)))
 (case side2=>exact HC0_0.out)
 rintro e w12 ⟨rfl,hb⟩
 refine ⟨_,rfl,?_⟩
 have n0_:=zK (blk_below (g:=gb391) (o:=.cells #[.slice A0_0 l0_0.length c0_0,.string a0_1] 42 (0,0)) (by (with_reducible repeat (first|refine blk_drewN ?_ _|refine blk_drew ?_|refine blk_alloc ?_ _)); exact BK391.out) hb)
 have n1_:=zK (below_step (by repeat (first|(with_reducible first|exact HB.out|apply zA|apply zN|apply zD|refine below_set ?_ GE391.out)|exact HB.out)) hb)
 clear BK391
 clear HB
 have BK391:=n0_
 have HB:=n1_
 clear n0_ n1_
 (try clear hb)
 (try clear hb2)
 (try clear hk)
 (try clear hi)
 refine hK.out _ _ ⟨(blk_cell BK391.out 0).trans rfl,(blk_cell BK391.out 1).trans rfl⟩ (fun hHeld=>?_)
 clear hK K
 refine norm_ (a':=?_) ?_ ?_
 rotate_left
 ·show Act.put _ (some 16) _=_
  simp only [Act.put,zp]
  rfl
 refine zq 8 (some 8) ?_ #[O,O,O,O,O,O,O,O,O] rfl rfl (any_of HT_.out (by kernel_rfl)) (fun _ _ _ h=>h) (Or.inl ⟨by rfl,?_⟩) ?_ ?_ ?_
 rotate_left;(intro w';go_simp;with_reducible rfl);rotate_left;(simp only [Act.put,zp];rfl)
 refine done_ (done_of HT_.out (by kernel_rfl)) ?_
 try go_wp2
 go_ret
 exact ⟨by first|rfl|(simp [errW_none,errW_some]<;>rfl)|(simp [*,errW_none,errW_some]<;>rfl),by repeat (first|(with_reducible first|exact HB.out|apply zA|apply zN|apply zD|refine below_set ?_ GE391.out)|exact HB.out)⟩
def legateref06_Cipher.f (k:Nat) (l0_0:List Int) (a0_1:ByteArray) (a1:ByteArray) (a2:Int):Option (ByteArray):=(legateref06_Key.f k l0_0 a0_1 a1 a2 (⟨#[99,105,112,104,101,114]⟩:ByteArray)).bind fun t395=>(if 0≤16 then (if 16≤(t395.size:Int) then (some (t395.extract 0 16)) else (none)) else (none))
set_option maxHeartbeats 8000000 in
set_option maxRecDepth 100000 in
theorem legateref06_Cipher.calls (k:Nat) (A0_0:Option Addr) (c0_0:Nat) (l0_0:List Int) (a0_1:ByteArray) (a1:ByteArray) (a2:Int) (r:ByteArray) (w:World) (hr0_0:Kd.C (Kd.int .i64) w A0_0 l0_0.length l0_0) (hc0_0:l0_0.length≤c0_0) (h:legateref06_Cipher.f k l0_0 a0_1 a1 a2=some r) :
 Calls Tryd.prog 44 #[.agg #[.slice A0_0 l0_0.length c0_0,.string a0_1],.string a1,.int .i64 a2] w fun e w'=>e=.returned (.string r)∧Below w.heap.size w w':=by
 have hu42:=Tryd.underlying42
 have HR0_0:=zK hr0_0
 have HC0_0:=zK hc0_0
 clear hr0_0 hc0_0
 have HB:=zK (Below.refl w.heap.size w)
 have H:((legateref06_Key.f k l0_0 a0_1 a1 a2 (⟨#[99,105,112,104,101,114]⟩:ByteArray)).bind fun t395=>(if 0≤16 then (if 16≤(t395.size:Int) then (some (t395.extract 0 16)) else (none)) else (none)))=some r:=h
 clear h
 replace H:=Option.bind_eq_some_iff.mp H
 obtain ⟨t395,A40,H⟩:=H
 replace H:(if 0≤16 then (if 16≤(t395.size:Int) then (some (t395.extract 0 16)) else (none)) else (none))=some r:=H
 have A4:=zK A40
 clear A40
 by_cases c5:0≤16
 case neg =>
  rw [if_neg c5] at H
  exact absurd H (by simp)
 rw [if_pos c5] at H
 have c5b0:=eq_true c5
 have c5b1:decide (0≤16)=true:=decide_eq_true c5
 clear c5
 by_cases c6:16≤(t395.size:Int)
 case neg =>
  rw [if_neg c6] at H
  exact absurd H (by simp)
 rw [if_pos c6] at H
 have c6b0:=eq_true c6
 have c6b1:decide (16≤(t395.size:Int))=true:=decide_eq_true c6
 clear c6
 obtain rfl:=Option.some.inj H
 go_enter Tryd.func44,Tryd.ntmps44
 go_wp2_with (first|((with_reducible refine gate_dst (N:=3) rfl ?_); refine box_event ?hg (N:=3) ?hd (cs:=#[.slice A0_0 l0_0.length c0_0,.string a0_1]) (t:=42) ?hr ?_; (case hd=>rfl); (case hg=>rfl); (case hr=>first|(go_simp; done)|(go_simp; rfl)); intro gb394 hg w7 hbox hb; have n0_:=zK (below_step (by repeat (first|(with_reducible first|exact HB.out|apply zA|apply zN|apply zD)|exact HB.out)) hb); have n1_:=zK (hbox); have n2_:=zK ((by rw [hg]; exact (below_size (by repeat (first|(with_reducible first|exact HB.out|apply zA|apply zN|apply zD)|exact HB.out))):w.heap.size≤gb394)); have n3_:=zK ((by rw [hg]; exact (below_size (by repeat (first|(with_reducible first|exact HB.out|apply zA|apply zN|apply zD)|exact HB.out))):w.heap.size≤gb394)); clear HB; have HB:=n0_; have BK394:=n1_; have GW394:=n2_; have GE394:=n3_; clear n0_ n1_ n2_ n3_; clear hb hbox hg; have hcz8_0:w7.cell? ⟨gb394,0,none⟩=some (.slice A0_0 l0_0.length c0_0):=(blk_cell BK394.out 0).trans rfl; have hcz8_1:w7.cell? ⟨gb394,1,none⟩=some (.string a0_1):=(blk_cell BK394.out 1).trans rfl; have hfz8_0:=blk_frozen BK394.out 0; have hfz8_1:=blk_frozen BK394.out 1)|((with_reducible refine gate_callee (f:=42) rfl ?_); refine goesL_ (some 10) rfl rfl Tryd.func42 (by kernel_rfl) rfl #[.agg #[.slice A0_0 l0_0.length c0_0,.string a0_1],.string a1,.int .i64 a2,.string (⟨#[99,105,112,104,101,114]⟩:ByteArray)] rfl (by (try simp only [zm]); first|done|rfl|(simp only [zl]; rfl)) ?_; (with_reducible refine (legateref06_Key.calls k _ _ l0_0 a0_1 a1 a2 (⟨#[99,105,112,104,101,114]⟩:ByteArray) t395 _ ?side1 ?side2 A4.out).mono ?_); (case side1=>repeat (first|exact (Kd.C_below HR0_0.out HB.out)|(with_reducible refine Kd.C_alloc ?_ _)|(with_reducible refine Kd.C_drewN ?_ _)|(with_reducible refine Kd.C_drew ?_))); (case side2=>exact HC0_0.out); rintro e w9 ⟨rfl,hb⟩; refine ⟨_,rfl,?_⟩; have n0_:=zK (blk_below (g:=gb394) (o:=.cells #[.slice A0_0 l0_0.length c0_0,.string a0_1] 42 (0,0)) (by (with_reducible repeat (first|refine blk_drewN ?_ _|refine blk_drew ?_|refine blk_alloc ?_ _)); exact BK394.out) hb); have n1_:=zK (below_step (by repeat (first|(with_reducible first|exact HB.out|apply zA|apply zN|apply zD|refine below_set ?_ GE394.out)|exact HB.out)) hb); clear BK394; clear HB; have BK394:=n0_; have HB:=n1_; clear n0_ n1_; (try clear hb); (try clear hb2); (try clear hk); (try clear hi)))
 go_ret
 exact ⟨by first|rfl|(simp [errW_none,errW_some]<;>rfl)|(simp [*,errW_none,errW_some]<;>rfl),by repeat (first|(with_reducible first|exact HB.out|apply zA|apply zN|apply zD|refine below_set ?_ GE394.out)|exact HB.out)⟩
def legateref06_Sum.f (k:Nat) (l0_0:List Int) (a0_1:ByteArray) (a1:ByteArray) (a2:Int):Option (ByteArray):=(legateref06_Key.f k l0_0 a0_1 a1 a2 (⟨#[115,117,109]⟩:ByteArray)).bind fun t397=>(some t397)
set_option maxHeartbeats 8000000 in
set_option maxRecDepth 100000 in
theorem legateref06_Sum.calls (k:Nat) (A0_0:Option Addr) (c0_0:Nat) (l0_0:List Int) (a0_1:ByteArray) (a1:ByteArray) (a2:Int) (r:ByteArray) (w:World) (hr0_0:Kd.C (Kd.int .i64) w A0_0 l0_0.length l0_0) (hc0_0:l0_0.length≤c0_0) (h:legateref06_Sum.f k l0_0 a0_1 a1 a2=some r) :
 Calls Tryd.prog 45 #[.agg #[.slice A0_0 l0_0.length c0_0,.string a0_1],.string a1,.int .i64 a2] w fun e w'=>e=.returned (.string r)∧Below w.heap.size w w':=by
 have hu42:=Tryd.underlying42
 have HR0_0:=zK hr0_0
 have HC0_0:=zK hc0_0
 clear hr0_0 hc0_0
 have HB:=zK (Below.refl w.heap.size w)
 have H:((legateref06_Key.f k l0_0 a0_1 a1 a2 (⟨#[115,117,109]⟩:ByteArray)).bind fun t397=>(some t397))=some r:=h
 clear h
 replace H:=Option.bind_eq_some_iff.mp H
 obtain ⟨t397,A40,H⟩:=H
 replace H:(some t397)=some r:=H
 have A4:=zK A40
 clear A40
 obtain rfl:=Option.some.inj H
 go_enter Tryd.func45,Tryd.ntmps45
 go_wp2_with (first|((with_reducible refine gate_dst (N:=3) rfl ?_); refine box_event ?hg (N:=3) ?hd (cs:=#[.slice A0_0 l0_0.length c0_0,.string a0_1]) (t:=42) ?hr ?_; (case hd=>rfl); (case hg=>rfl); (case hr=>first|(go_simp; done)|(go_simp; rfl)); intro gb396 hg w5 hbox hb; have n0_:=zK (below_step (by repeat (first|(with_reducible first|exact HB.out|apply zA|apply zN|apply zD)|exact HB.out)) hb); have n1_:=zK (hbox); have n2_:=zK ((by rw [hg]; exact (below_size (by repeat (first|(with_reducible first|exact HB.out|apply zA|apply zN|apply zD)|exact HB.out))):w.heap.size≤gb396)); have n3_:=zK ((by rw [hg]; exact (below_size (by repeat (first|(with_reducible first|exact HB.out|apply zA|apply zN|apply zD)|exact HB.out))):w.heap.size≤gb396)); clear HB; have HB:=n0_; have BK396:=n1_; have GW396:=n2_; have GE396:=n3_; clear n0_ n1_ n2_ n3_; clear hb hbox hg; have hcz6_0:w5.cell? ⟨gb396,0,none⟩=some (.slice A0_0 l0_0.length c0_0):=(blk_cell BK396.out 0).trans rfl; have hcz6_1:w5.cell? ⟨gb396,1,none⟩=some (.string a0_1):=(blk_cell BK396.out 1).trans rfl; have hfz6_0:=blk_frozen BK396.out 0; have hfz6_1:=blk_frozen BK396.out 1)|((with_reducible refine gate_callee (f:=42) rfl ?_); refine goesL_ (some 10) rfl rfl Tryd.func42 (by kernel_rfl) rfl #[.agg #[.slice A0_0 l0_0.length c0_0,.string a0_1],.string a1,.int .i64 a2,.string (⟨#[115,117,109]⟩:ByteArray)] rfl (by (try simp only [zm]); first|done|rfl|(simp only [zl]; rfl)) ?_; (with_reducible refine (legateref06_Key.calls k _ _ l0_0 a0_1 a1 a2 (⟨#[115,117,109]⟩:ByteArray) t397 _ ?side1 ?side2 A4.out).mono ?_); (case side1=>repeat (first|exact (Kd.C_below HR0_0.out HB.out)|(with_reducible refine Kd.C_alloc ?_ _)|(with_reducible refine Kd.C_drewN ?_ _)|(with_reducible refine Kd.C_drew ?_))); (case side2=>exact HC0_0.out); rintro e w7 ⟨rfl,hb⟩; refine ⟨_,rfl,?_⟩; have n0_:=zK (blk_below (g:=gb396) (o:=.cells #[.slice A0_0 l0_0.length c0_0,.string a0_1] 42 (0,0)) (by (with_reducible repeat (first|refine blk_drewN ?_ _|refine blk_drew ?_|refine blk_alloc ?_ _)); exact BK396.out) hb); have n1_:=zK (below_step (by repeat (first|(with_reducible first|exact HB.out|apply zA|apply zN|apply zD|refine below_set ?_ GE396.out)|exact HB.out)) hb); clear BK396; clear HB; have BK396:=n0_; have HB:=n1_; clear n0_ n1_; (try clear hb); (try clear hb2); (try clear hk); (try clear hi)))
 go_ret
 exact ⟨by first|rfl|(simp [errW_none,errW_some]<;>rfl)|(simp [*,errW_none,errW_some]<;>rfl),by repeat (first|(with_reducible first|exact HB.out|apply zA|apply zN|apply zD|refine below_set ?_ GE396.out)|exact HB.out)⟩
end Go.Proofs.YtkgijkfcmbpgpaaDoor.PAll
end
