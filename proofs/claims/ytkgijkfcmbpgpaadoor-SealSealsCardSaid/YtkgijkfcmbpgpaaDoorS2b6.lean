import Derived.Test.YtkgijkfcmbpgpaaDoorS2b0
import Derived.Test.YtkgijkfcmbpgpaaDoorS2b1
import Derived.Test.YtkgijkfcmbpgpaaDoorS2b5
section
namespace Go.Proofs.YtkgijkfcmbpgpaaDoor.Giv
open Go.RowKit Go.Proofs.YtkgijkfcmbpgpaaDoorW.PrintWords Go.Proofs.YtkgijkfcmbpgpaaDoorW.PrintLast Go.Proofs.YtkgijkfcmbpgpaaDoorW.PrintMore Go.Proofs.YtkgijkfcmbpgpaaDoor.PSub
set_option linter.unusedVariables false
set_option linter.unusedSimpArgs false
theorem code_at {P:Program} {c:Code} {Q:Exit→Act→World→Prop} {a:Act} {W:World} (p:World→Prop) (hp:p W) (h:∀ W',p W'→c.wp P Q a W'):c.wp P Q a W:=h W hp
def x8 (a b:Int):Int:=Go.bits .xor .u8 a b
def mx4 (L:List Int) (i:Nat) (a b c d z:Int):List Int :=
  (((L.set i (x8 a (x8 z (tw (x8 a b))))).set (i+1) (x8 b (x8 z (tw (x8 b c))))).set (i+2) (x8 c (x8 z (tw (x8 c d))))).set (i+3) (x8 d (x8 z (tw (x8 d a))))
def mxRow (L:List Int) (i:Nat):List Int :=
  mx4 L i (L.getD i 0) (L.getD (i+1) 0) (L.getD (i+2) 0) (L.getD (i+3) 0) (x8 (x8 (x8 (L.getD i 0) (L.getD (i+1) 0)) (L.getD (i+2) 0)) (L.getD (i+3) 0))
def mxS (s:List Int):Nat→List Int
  | 0=>s
  | k+1=>mxRow (mxS s k) (4 * k)
theorem mxS_len (s:List Int):∀ k,(mxS s k).length=s.length
 | 0=>rfl
 | k+1=>by simp [mxS,mxRow,mx4,mxS_len s k]
theorem getD_set_ne (L:List Int) (i j:Nat) (x:Int) (h:i≠j):(L.set i x).getD j 0=L.getD j 0:=by
 simp [List.getD_eq_getElem?_getD,List.getElem?_set,h]
set_option maxHeartbeats 4000000 in
set_option maxRecDepth 100000 in
theorem aes_mix (s:List Int) (hs:s.length=16) (g:Nat) (w:World) (hg:w.heap[g]? = some (.cells (AK .u8 s) 101 (0,0))) :
 Calls Tryd.prog 100 #[.pointer (some ⟨g,0,none⟩)] w fun e w'=>e=.returned (.tuple #[])∧Turned w g (mxS s 4) w':=by
 have HG:=zK hg
 have HS:=zK hs
 clear hg hs
 have hlt:g<w.heap.size:=(Array.getElem?_eq_some_iff.1 HG.out).1
 go_enter Tryd.func100,Tryd.ntmps100
 go_wp2_with fail
 go_loopw [2] (fun v2 wr=>∃ k:Nat,k≤4∧v2=.int .i64 ((4 * k:Nat):Int)∧Aside0 (wr.heap[g]? = some (.cells (AK .u8 (mxS s k)) 101 (0,0)))∧Aside0 (w.grownBy wr (some g))) (fun v2 _=>16 - (intOf v2).toNat)
 case atStart=>exact ⟨0,by omega,rfl,HG,⟨grown_refl _ _⟩⟩
 case round =>
  clear HG
  obtain ⟨k,hk,rfl,HX,HW⟩:=hrel
  by_cases hlt2:k<4
  case neg =>
   obtain rfl:k=4:=by omega
   go_wp2
   exact bodyPost_end (results_none rfl _ _ _) rfl ⟨rfl,HX.out,HW.out⟩
  have h4:k=0∨k=1∨k=2∨k=3:=by omega
  rcases h4 with rfl|rfl|rfl|rfl
  ·have HL:Aside0 ((mxS s 0).length=16):=⟨by rw [mxS_len,HS.out]⟩
   obtain ⟨L,hL⟩:∃ L,L=mxS s 0:=⟨_,rfl⟩
   rw [← hL] at HX HL
   have HLe:=zK hL
   clear hL
   have c0:=AK_cell HX.out 0 (by rw [HL.out]; decide)
   obtain ⟨a,ha⟩:∃ x,x=L.getD 0 0:=⟨_,rfl⟩
   rw [← ha] at c0
   have Ha:=zK ha
   clear ha
   have c1:=AK_cell HX.out 1 (by rw [HL.out]; decide)
   obtain ⟨b,hb⟩:∃ x,x=L.getD 1 0:=⟨_,rfl⟩
   rw [← hb] at c1
   have Hb:=zK hb
   clear hb
   have c2:=AK_cell HX.out 2 (by rw [HL.out]; decide)
   obtain ⟨c,hc⟩:∃ x,x=L.getD 2 0:=⟨_,rfl⟩
   rw [← hc] at c2
   have Hc:=zK hc
   clear hc
   have c3:=AK_cell HX.out 3 (by rw [HL.out]; decide)
   obtain ⟨d,hd⟩:∃ x,x=L.getD 3 0:=⟨_,rfl⟩
   rw [← hd] at c3
   have Hd:=zK hd
   clear hd
   have e0_:IntKind.i64.wrap 0=0:=rfl
   have e1_:IntKind.i64.wrap 1=1:=rfl
   have e2_:IntKind.i64.wrap 2=2:=rfl
   have e3_:IntKind.i64.wrap 3=3:=rfl
   have e4_:IntKind.i64.wrap 4=4:=rfl
   go_wp2_with fail
   go_quiet (fail)
   go_wp2_with fail
   clear c0 c1 c2 c3
   refine code_at (fun W=>W.heap[g]? = some (.cells (AK .u8 L) 101 (0,0))∧w.grownBy W (some g)) ⟨?_,?_⟩ ?_
   ·exact HX.out
   ·exact grown_drewN HW.out _
   intro W0 hW0
   have HX0:=zK hW0.1
   have HW0:=zK hW0.2
   clear hW0
   have HL0_:Aside0 (L.length=16):=⟨by exact HL.out⟩
   have HV0:Aside0 (L.getD 0 0=a):=⟨by exact Ha.out.symm⟩
   have hc0:=(AK_cell HX0.out 0 (by rw [HL0_.out]; decide)).trans (by rw [HV0.out])
   have hf0:=frozen_of_row W0 g 0 _ _ HX0.out
   refine start_ (n:=15) (S:=fun w'=>w'.heap[g]? = some (.cells (AK .u8 L) 101 (0,0))) (ds:=[14]) #[G,G,G,G,G,G,G,G,G,G,G,G,G,G,G] (by kernel_rfl) rfl rfl HX0.out (fun hHeld=>?_)
   refine with_tab (T:=rtab .any (opsOf Tryd.f100 5)) (by kernel_rfl) (fun HT_=>?_)
   refine zq 0 (some 42) ?_ #[O,G,G,G,G,G,G,G,G,G,G,G,G,G,G] rfl rfl (any_of HT_.out (by kernel_rfl)) (fun _ _ _ h=>h) (Or.inl ⟨by rfl,?_⟩) ?_ ?_ ?_
   rotate_left;(intro w';go_simp;with_reducible rfl);rotate_left;(simp only [Act.put,zp];rfl)
   refine zq 1 (some 43) ?_ #[O,O,G,G,G,G,G,G,G,G,G,G,G,G,G] rfl rfl (any_of HT_.out (by kernel_rfl)) (fun _ _ _ h=>h) (Or.inl ⟨by rfl,?_⟩) ?_ ?_ ?_
   rotate_left;(intro w';go_simp;with_reducible rfl);rotate_left;(simp only [Act.put,zp];rfl)
   refine zq 2 (some 44) ?_ #[O,O,O,G,G,G,G,G,G,G,G,G,G,G,G] rfl rfl (any_of HT_.out (by kernel_rfl)) (fun _ _ _ h=>h) (Or.inl ⟨by rfl,?_⟩) ?_ ?_ ?_
   rotate_left;(intro w';go_simp;with_reducible rfl);rotate_left;(simp only [Act.put,zp];rfl)
   refine zq 3 (some 45) ?_ #[O,O,O,O,G,G,G,G,G,G,G,G,G,G,G] rfl rfl (any_of HT_.out (by kernel_rfl)) (fun _ _ _ h=>h) (Or.inl ⟨by rfl,?_⟩) ?_ ?_ ?_
   rotate_left;(intro w';go_simp;with_reducible rfl);rotate_left;(simp only [Act.put,zp];rfl)
   refine take_ (i:=4) (N:=(some 46)) (v:=?_) (a':=?_) #[O,O,O,O,O,G,G,G,G,G,G,G,G,G,G] rfl rfl (take_of HT_.out (by kernel_rfl)) (fun _ _ _ h=>h) (Or.inl ⟨by rfl,?_⟩) hHeld ?_ ?_
   rotate_left
   ·intro w' hs'
    have hcl:=(AK_cell hs' 0 (by rw [HL0_.out]; decide)).trans (by rw [HV0.out])
    go_simp
    with_reducible rfl
   rotate_left
   ·simp only [Act.put,zp]
    rfl
   refine zq 5 (some 47) ?_ #[O,O,O,O,O,O,G,G,G,G,G,G,G,G,G] rfl rfl (any_of HT_.out (by kernel_rfl)) (fun _ _ _ h=>h) (Or.inl ⟨by rfl,?_⟩) ?_ ?_ ?_
   rotate_left;(intro w';go_simp;with_reducible rfl);rotate_left;(simp only [Act.put,zp];rfl)
   refine zq 6 (some 48) ?_ #[O,O,O,O,O,O,O,G,G,G,G,G,G,G,G] rfl rfl (any_of HT_.out (by kernel_rfl)) (fun _ _ _ h=>h) (Or.inl ⟨by rfl,?_⟩) ?_ ?_ ?_
   rotate_left;(intro w';go_simp;with_reducible rfl);rotate_left;(simp only [Act.put,zp];rfl)
   refine zq 7 (some 49) ?_ #[O,O,O,O,O,O,O,O,G,G,G,G,G,G,G] rfl rfl (any_of HT_.out (by kernel_rfl)) (fun _ _ _ h=>h) (Or.inl ⟨by rfl,?_⟩) ?_ ?_ ?_
   rotate_left;(intro w';go_simp;with_reducible rfl);rotate_left;(simp only [Act.put,zp];rfl)
   refine zq 8 (some 50) ?_ #[O,O,O,O,O,O,O,O,O,G,G,G,G,G,G] rfl rfl (any_of HT_.out (by kernel_rfl)) (fun _ _ _ h=>h) (Or.inl ⟨by rfl,?_⟩) ?_ ?_ ?_
   rotate_left;(intro w';go_simp;with_reducible rfl);rotate_left;(simp only [Act.put,zp];rfl)
   refine zq 12 (some 54) ?_ #[O,O,O,O,O,O,O,O,O,G,G,G,O,G,G] rfl rfl (any_of HT_.out (by kernel_rfl)) (fun _ _ _ h=>h) (Or.inl ⟨by rfl,?_⟩) ?_ ?_ ?_
   rotate_left;(intro w';go_simp;with_reducible rfl);rotate_left;(simp only [Act.put,zp];rfl)
   refine one_ (i:=9) (N:=(some 51)) #[O,O,O,O,O,O,O,O,O,O,G,G,O,G,G] rfl rfl (one_of HT_.out (by kernel_rfl)) (by decide) (fun K hK=>?_)
   refine goes_ Tryd.func102 (by kernel_rfl) rfl #[.int .u8 (Go.bits .xor .u8 a b)] (by rfl) rfl rfl (by (try simp only [zm]); first|done|rfl) ?_
   refine (aes_twice.calls _ _ _ (tw_some (Go.bits .xor .u8 a b))).mono ?_
   rintro e w2 ⟨rfl,m,rfl⟩
   refine ⟨_,rfl,?_⟩
   refine hK.out _ _ HX0.out (fun hHeld=>?_)
   clear hK K
   refine norm_ (a':=?_) ?_ ?_
   rotate_left
   ·show Act.put _ (some 51) _=_
    simp only [Act.put,zp]
    rfl
   refine zq 10 (some 52) ?_ #[O,O,O,O,O,O,O,O,O,O,O,G,O,G,G] rfl rfl (any_of HT_.out (by kernel_rfl)) (fun _ _ _ h=>h) (Or.inl ⟨by rfl,?_⟩) ?_ ?_ ?_
   rotate_left;(intro w';go_simp;with_reducible rfl);rotate_left;(simp only [Act.put,zp];rfl)
   refine zq 11 (some 53) ?_ #[O,O,O,O,O,O,O,O,O,O,O,O,O,G,G] rfl rfl (any_of HT_.out (by kernel_rfl)) (fun _ _ _ h=>h) (Or.inl ⟨by rfl,?_⟩) ?_ ?_ ?_
   rotate_left;(intro w';go_simp;with_reducible rfl);rotate_left;(simp only [Act.put,zp];rfl)
   refine zq 13 (some 55) ?_ #[O,O,O,O,O,O,O,O,O,O,O,O,O,O,G] rfl rfl (any_of HT_.out (by kernel_rfl)) (fun _ _ _ h=>h) (Or.inl ⟨by rfl,?_⟩) ?_ ?_ ?_
   rotate_left;(intro w';go_simp;with_reducible rfl);rotate_left;(simp only [Act.put,zp];rfl)
   refine last_ (i:=14) (N:=none) #[O,O,O,O,O,O,O,O,O,O,O,O,O,O,O] rfl rfl (one_of HT_.out (by kernel_rfl)) (by decide) (fun K hK=>?_)
   refine skip_ (w1:=?_) (by rfl) rfl ?_ ?_
   rotate_left
   ·go_simp
    rfl
   refine hK.out _ _ ?_
   clear hK K
   refine done_ (done_of HT_.out (by kernel_rfl)) ?_
   clear hc0 hf0
   obtain ⟨L1,hL1⟩:∃ x,x=L.set 0 (Go.bits .xor .u8 a (Go.bits .xor .u8 (Go.bits .xor .u8 (Go.bits .xor .u8 (Go.bits .xor .u8 a b) c) d) (tw (Go.bits .xor .u8 a b)))):=⟨_,rfl⟩
   try go_wp2_with fail
   refine code_at (fun W=>W.heap[g]? = some (.cells (AK .u8 L1) 101 (0,0))∧w.grownBy W (some g)) ⟨?_,?_⟩ ?_
   ·exact (AK_store (w:=W0.drewN _) HX0.out 0 _).trans (by rw [hL1])
   ·exact grown_set (grown_drewN HW0.out _) _ _
   intro W1 hW1
   have HX1:=zK hW1.1
   have HW1:=zK hW1.2
   clear hW1
   have HL1_:Aside0 (L1.length=16):=⟨by rw [hL1,List.length_set]; exact HL0_.out⟩
   have HV1:Aside0 (L1.getD 1 0=b):=⟨by rw [hL1,getD_set_ne _ _ _ _ (by decide)]; exact Hb.out.symm⟩
   have hc1:=(AK_cell HX1.out 1 (by rw [HL1_.out]; decide)).trans (by rw [HV1.out])
   have hf1:=frozen_of_row W1 g 1 _ _ HX1.out
   refine start_ (n:=16) (S:=fun w'=>w'.heap[g]? = some (.cells (AK .u8 L1) 101 (0,0))) (ds:=[15]) #[G,G,G,G,G,G,G,G,G,G,G,G,G,G,G,G] (by kernel_rfl) rfl rfl HX1.out (fun hHeld=>?_)
   refine with_tab (T:=rtab .any (opsOf Tryd.f100 6)) (by kernel_rfl) (fun HT_=>?_)
   refine zq 0 (some 56) ?_ #[O,G,G,G,G,G,G,G,G,G,G,G,G,G,G,G] rfl rfl (any_of HT_.out (by kernel_rfl)) (fun _ _ _ h=>h) (Or.inl ⟨by rfl,?_⟩) ?_ ?_ ?_
   rotate_left;(intro w';go_simp;with_reducible rfl);rotate_left;(simp only [Act.put,zp];rfl)
   refine zq 1 (some 57) ?_ #[O,O,G,G,G,G,G,G,G,G,G,G,G,G,G,G] rfl rfl (any_of HT_.out (by kernel_rfl)) (fun _ _ _ h=>h) (Or.inl ⟨by rfl,?_⟩) ?_ ?_ ?_
   rotate_left;(intro w';go_simp;with_reducible rfl);rotate_left;(simp only [Act.put,zp];rfl)
   refine zq 2 (some 58) ?_ #[O,O,O,G,G,G,G,G,G,G,G,G,G,G,G,G] rfl rfl (any_of HT_.out (by kernel_rfl)) (fun _ _ _ h=>h) (Or.inl ⟨by rfl,?_⟩) ?_ ?_ ?_
   rotate_left;(intro w';go_simp;with_reducible rfl);rotate_left;(simp only [Act.put,zp];rfl)
   refine zq 3 (some 59) ?_ #[O,O,O,O,G,G,G,G,G,G,G,G,G,G,G,G] rfl rfl (any_of HT_.out (by kernel_rfl)) (fun _ _ _ h=>h) (Or.inl ⟨by rfl,?_⟩) ?_ ?_ ?_
   rotate_left;(intro w';go_simp;with_reducible rfl);rotate_left;(simp only [Act.put,zp];rfl)
   refine zq 4 (some 60) ?_ #[O,O,O,O,O,G,G,G,G,G,G,G,G,G,G,G] rfl rfl (any_of HT_.out (by kernel_rfl)) (fun _ _ _ h=>h) (Or.inl ⟨by rfl,?_⟩) ?_ ?_ ?_
   rotate_left;(intro w';go_simp;with_reducible rfl);rotate_left;(simp only [Act.put,zp];rfl)
   refine take_ (i:=5) (N:=(some 61)) (v:=?_) (a':=?_) #[O,O,O,O,O,O,G,G,G,G,G,G,G,G,G,G] rfl rfl (take_of HT_.out (by kernel_rfl)) (fun _ _ _ h=>h) (Or.inl ⟨by rfl,?_⟩) hHeld ?_ ?_
   rotate_left
   ·intro w' hs'
    have hcl:=(AK_cell hs' 1 (by rw [HL1_.out]; decide)).trans (by rw [HV1.out])
    go_simp
    with_reducible rfl
   rotate_left
   ·simp only [Act.put,zp]
    rfl
   refine zq 6 (some 62) ?_ #[O,O,O,O,O,O,O,G,G,G,G,G,G,G,G,G] rfl rfl (any_of HT_.out (by kernel_rfl)) (fun _ _ _ h=>h) (Or.inl ⟨by rfl,?_⟩) ?_ ?_ ?_
   rotate_left;(intro w';go_simp;with_reducible rfl);rotate_left;(simp only [Act.put,zp];rfl)
   refine zq 7 (some 63) ?_ #[O,O,O,O,O,O,O,O,G,G,G,G,G,G,G,G] rfl rfl (any_of HT_.out (by kernel_rfl)) (fun _ _ _ h=>h) (Or.inl ⟨by rfl,?_⟩) ?_ ?_ ?_
   rotate_left;(intro w';go_simp;with_reducible rfl);rotate_left;(simp only [Act.put,zp];rfl)
   refine zq 8 (some 64) ?_ #[O,O,O,O,O,O,O,O,O,G,G,G,G,G,G,G] rfl rfl (any_of HT_.out (by kernel_rfl)) (fun _ _ _ h=>h) (Or.inl ⟨by rfl,?_⟩) ?_ ?_ ?_
   rotate_left;(intro w';go_simp;with_reducible rfl);rotate_left;(simp only [Act.put,zp];rfl)
   refine zq 9 (some 65) ?_ #[O,O,O,O,O,O,O,O,O,O,G,G,G,G,G,G] rfl rfl (any_of HT_.out (by kernel_rfl)) (fun _ _ _ h=>h) (Or.inl ⟨by rfl,?_⟩) ?_ ?_ ?_
   rotate_left;(intro w';go_simp;with_reducible rfl);rotate_left;(simp only [Act.put,zp];rfl)
   refine zq 13 (some 69) ?_ #[O,O,O,O,O,O,O,O,O,O,G,G,G,O,G,G] rfl rfl (any_of HT_.out (by kernel_rfl)) (fun _ _ _ h=>h) (Or.inl ⟨by rfl,?_⟩) ?_ ?_ ?_
   rotate_left;(intro w';go_simp;with_reducible rfl);rotate_left;(simp only [Act.put,zp];rfl)
   refine one_ (i:=10) (N:=(some 66)) #[O,O,O,O,O,O,O,O,O,O,O,G,G,O,G,G] rfl rfl (one_of HT_.out (by kernel_rfl)) (by decide) (fun K hK=>?_)
   refine goes_ Tryd.func102 (by kernel_rfl) rfl #[.int .u8 (Go.bits .xor .u8 b c)] (by rfl) rfl rfl (by (try simp only [zm]); first|done|rfl) ?_
   refine (aes_twice.calls _ _ _ (tw_some (Go.bits .xor .u8 b c))).mono ?_
   rintro e w2 ⟨rfl,m,rfl⟩
   refine ⟨_,rfl,?_⟩
   refine hK.out _ _ HX1.out (fun hHeld=>?_)
   clear hK K
   refine norm_ (a':=?_) ?_ ?_
   rotate_left
   ·show Act.put _ (some 66) _=_
    simp only [Act.put,zp]
    rfl
   refine zq 11 (some 67) ?_ #[O,O,O,O,O,O,O,O,O,O,O,O,G,O,G,G] rfl rfl (any_of HT_.out (by kernel_rfl)) (fun _ _ _ h=>h) (Or.inl ⟨by rfl,?_⟩) ?_ ?_ ?_
   rotate_left;(intro w';go_simp;with_reducible rfl);rotate_left;(simp only [Act.put,zp];rfl)
   refine zq 12 (some 68) ?_ #[O,O,O,O,O,O,O,O,O,O,O,O,O,O,G,G] rfl rfl (any_of HT_.out (by kernel_rfl)) (fun _ _ _ h=>h) (Or.inl ⟨by rfl,?_⟩) ?_ ?_ ?_
   rotate_left;(intro w';go_simp;with_reducible rfl);rotate_left;(simp only [Act.put,zp];rfl)
   refine zq 14 (some 70) ?_ #[O,O,O,O,O,O,O,O,O,O,O,O,O,O,O,G] rfl rfl (any_of HT_.out (by kernel_rfl)) (fun _ _ _ h=>h) (Or.inl ⟨by rfl,?_⟩) ?_ ?_ ?_
   rotate_left;(intro w';go_simp;with_reducible rfl);rotate_left;(simp only [Act.put,zp];rfl)
   refine last_ (i:=15) (N:=none) #[O,O,O,O,O,O,O,O,O,O,O,O,O,O,O,O] rfl rfl (one_of HT_.out (by kernel_rfl)) (by decide) (fun K hK=>?_)
   refine skip_ (w1:=?_) (by rfl) rfl ?_ ?_
   rotate_left
   ·go_simp
    rfl
   refine hK.out _ _ ?_
   clear hK K
   refine done_ (done_of HT_.out (by kernel_rfl)) ?_
   clear hc1 hf1
   obtain ⟨L2,hL2⟩:∃ x,x=L1.set 1 (Go.bits .xor .u8 b (Go.bits .xor .u8 (Go.bits .xor .u8 (Go.bits .xor .u8 (Go.bits .xor .u8 a b) c) d) (tw (Go.bits .xor .u8 b c)))):=⟨_,rfl⟩
   try go_wp2_with fail
   refine code_at (fun W=>W.heap[g]? = some (.cells (AK .u8 L2) 101 (0,0))∧w.grownBy W (some g)) ⟨?_,?_⟩ ?_
   ·exact (AK_store (w:=W1.drewN _) HX1.out 1 _).trans (by rw [hL2])
   ·exact grown_set (grown_drewN HW1.out _) _ _
   intro W2 hW2
   have HX2:=zK hW2.1
   have HW2:=zK hW2.2
   clear hW2
   have HL2_:Aside0 (L2.length=16):=⟨by rw [hL2,List.length_set]; exact HL1_.out⟩
   have HV2:Aside0 (L2.getD 2 0=c):=⟨by rw [hL2,getD_set_ne _ _ _ _ (by decide)]; rw [hL1,getD_set_ne _ _ _ _ (by decide)]; exact Hc.out.symm⟩
   have hc2:=(AK_cell HX2.out 2 (by rw [HL2_.out]; decide)).trans (by rw [HV2.out])
   have hf2:=frozen_of_row W2 g 2 _ _ HX2.out
   refine start_ (n:=16) (S:=fun w'=>w'.heap[g]? = some (.cells (AK .u8 L2) 101 (0,0))) (ds:=[15]) #[G,G,G,G,G,G,G,G,G,G,G,G,G,G,G,G] (by kernel_rfl) rfl rfl HX2.out (fun hHeld=>?_)
   refine with_tab (T:=rtab .any (opsOf Tryd.f100 7)) (by kernel_rfl) (fun HT_=>?_)
   refine zq 0 (some 71) ?_ #[O,G,G,G,G,G,G,G,G,G,G,G,G,G,G,G] rfl rfl (any_of HT_.out (by kernel_rfl)) (fun _ _ _ h=>h) (Or.inl ⟨by rfl,?_⟩) ?_ ?_ ?_
   rotate_left;(intro w';go_simp;with_reducible rfl);rotate_left;(simp only [Act.put,zp];rfl)
   refine zq 1 (some 72) ?_ #[O,O,G,G,G,G,G,G,G,G,G,G,G,G,G,G] rfl rfl (any_of HT_.out (by kernel_rfl)) (fun _ _ _ h=>h) (Or.inl ⟨by rfl,?_⟩) ?_ ?_ ?_
   rotate_left;(intro w';go_simp;with_reducible rfl);rotate_left;(simp only [Act.put,zp];rfl)
   refine zq 2 (some 73) ?_ #[O,O,O,G,G,G,G,G,G,G,G,G,G,G,G,G] rfl rfl (any_of HT_.out (by kernel_rfl)) (fun _ _ _ h=>h) (Or.inl ⟨by rfl,?_⟩) ?_ ?_ ?_
   rotate_left;(intro w';go_simp;with_reducible rfl);rotate_left;(simp only [Act.put,zp];rfl)
   refine zq 3 (some 74) ?_ #[O,O,O,O,G,G,G,G,G,G,G,G,G,G,G,G] rfl rfl (any_of HT_.out (by kernel_rfl)) (fun _ _ _ h=>h) (Or.inl ⟨by rfl,?_⟩) ?_ ?_ ?_
   rotate_left;(intro w';go_simp;with_reducible rfl);rotate_left;(simp only [Act.put,zp];rfl)
   refine zq 4 (some 75) ?_ #[O,O,O,O,O,G,G,G,G,G,G,G,G,G,G,G] rfl rfl (any_of HT_.out (by kernel_rfl)) (fun _ _ _ h=>h) (Or.inl ⟨by rfl,?_⟩) ?_ ?_ ?_
   rotate_left;(intro w';go_simp;with_reducible rfl);rotate_left;(simp only [Act.put,zp];rfl)
   refine take_ (i:=5) (N:=(some 76)) (v:=?_) (a':=?_) #[O,O,O,O,O,O,G,G,G,G,G,G,G,G,G,G] rfl rfl (take_of HT_.out (by kernel_rfl)) (fun _ _ _ h=>h) (Or.inl ⟨by rfl,?_⟩) hHeld ?_ ?_
   rotate_left
   ·intro w' hs'
    have hcl:=(AK_cell hs' 2 (by rw [HL2_.out]; decide)).trans (by rw [HV2.out])
    go_simp
    with_reducible rfl
   rotate_left
   ·simp only [Act.put,zp]
    rfl
   refine zq 6 (some 77) ?_ #[O,O,O,O,O,O,O,G,G,G,G,G,G,G,G,G] rfl rfl (any_of HT_.out (by kernel_rfl)) (fun _ _ _ h=>h) (Or.inl ⟨by rfl,?_⟩) ?_ ?_ ?_
   rotate_left;(intro w';go_simp;with_reducible rfl);rotate_left;(simp only [Act.put,zp];rfl)
   refine zq 7 (some 78) ?_ #[O,O,O,O,O,O,O,O,G,G,G,G,G,G,G,G] rfl rfl (any_of HT_.out (by kernel_rfl)) (fun _ _ _ h=>h) (Or.inl ⟨by rfl,?_⟩) ?_ ?_ ?_
   rotate_left;(intro w';go_simp;with_reducible rfl);rotate_left;(simp only [Act.put,zp];rfl)
   refine zq 8 (some 79) ?_ #[O,O,O,O,O,O,O,O,O,G,G,G,G,G,G,G] rfl rfl (any_of HT_.out (by kernel_rfl)) (fun _ _ _ h=>h) (Or.inl ⟨by rfl,?_⟩) ?_ ?_ ?_
   rotate_left;(intro w';go_simp;with_reducible rfl);rotate_left;(simp only [Act.put,zp];rfl)
   refine zq 9 (some 80) ?_ #[O,O,O,O,O,O,O,O,O,O,G,G,G,G,G,G] rfl rfl (any_of HT_.out (by kernel_rfl)) (fun _ _ _ h=>h) (Or.inl ⟨by rfl,?_⟩) ?_ ?_ ?_
   rotate_left;(intro w';go_simp;with_reducible rfl);rotate_left;(simp only [Act.put,zp];rfl)
   refine zq 13 (some 84) ?_ #[O,O,O,O,O,O,O,O,O,O,G,G,G,O,G,G] rfl rfl (any_of HT_.out (by kernel_rfl)) (fun _ _ _ h=>h) (Or.inl ⟨by rfl,?_⟩) ?_ ?_ ?_
   rotate_left;(intro w';go_simp;with_reducible rfl);rotate_left;(simp only [Act.put,zp];rfl)
   refine one_ (i:=10) (N:=(some 81)) #[O,O,O,O,O,O,O,O,O,O,O,G,G,O,G,G] rfl rfl (one_of HT_.out (by kernel_rfl)) (by decide) (fun K hK=>?_)
   refine goes_ Tryd.func102 (by kernel_rfl) rfl #[.int .u8 (Go.bits .xor .u8 c d)] (by rfl) rfl rfl (by (try simp only [zm]); first|done|rfl) ?_
   refine (aes_twice.calls _ _ _ (tw_some (Go.bits .xor .u8 c d))).mono ?_
   rintro e w2 ⟨rfl,m,rfl⟩
   refine ⟨_,rfl,?_⟩
   refine hK.out _ _ HX2.out (fun hHeld=>?_)
   clear hK K
   refine norm_ (a':=?_) ?_ ?_
   rotate_left
   ·show Act.put _ (some 81) _=_
    simp only [Act.put,zp]
    rfl
   refine zq 11 (some 82) ?_ #[O,O,O,O,O,O,O,O,O,O,O,O,G,O,G,G] rfl rfl (any_of HT_.out (by kernel_rfl)) (fun _ _ _ h=>h) (Or.inl ⟨by rfl,?_⟩) ?_ ?_ ?_
   rotate_left;(intro w';go_simp;with_reducible rfl);rotate_left;(simp only [Act.put,zp];rfl)
   refine zq 12 (some 83) ?_ #[O,O,O,O,O,O,O,O,O,O,O,O,O,O,G,G] rfl rfl (any_of HT_.out (by kernel_rfl)) (fun _ _ _ h=>h) (Or.inl ⟨by rfl,?_⟩) ?_ ?_ ?_
   rotate_left;(intro w';go_simp;with_reducible rfl);rotate_left;(simp only [Act.put,zp];rfl)
   refine zq 14 (some 85) ?_ #[O,O,O,O,O,O,O,O,O,O,O,O,O,O,O,G] rfl rfl (any_of HT_.out (by kernel_rfl)) (fun _ _ _ h=>h) (Or.inl ⟨by rfl,?_⟩) ?_ ?_ ?_
   rotate_left;(intro w';go_simp;with_reducible rfl);rotate_left;(simp only [Act.put,zp];rfl)
   refine last_ (i:=15) (N:=none) #[O,O,O,O,O,O,O,O,O,O,O,O,O,O,O,O] rfl rfl (one_of HT_.out (by kernel_rfl)) (by decide) (fun K hK=>?_)
   refine skip_ (w1:=?_) (by rfl) rfl ?_ ?_
   rotate_left
   ·go_simp
    rfl
   refine hK.out _ _ ?_
   clear hK K
   refine done_ (done_of HT_.out (by kernel_rfl)) ?_
   clear hc2 hf2
   obtain ⟨L3,hL3⟩:∃ x,x=L2.set 2 (Go.bits .xor .u8 c (Go.bits .xor .u8 (Go.bits .xor .u8 (Go.bits .xor .u8 (Go.bits .xor .u8 a b) c) d) (tw (Go.bits .xor .u8 c d)))):=⟨_,rfl⟩
   try go_wp2_with fail
   refine code_at (fun W=>W.heap[g]? = some (.cells (AK .u8 L3) 101 (0,0))∧w.grownBy W (some g)) ⟨?_,?_⟩ ?_
   ·exact (AK_store (w:=W2.drewN _) HX2.out 2 _).trans (by rw [hL3])
   ·exact grown_set (grown_drewN HW2.out _) _ _
   intro W3 hW3
   have HX3:=zK hW3.1
   have HW3:=zK hW3.2
   clear hW3
   have HL3_:Aside0 (L3.length=16):=⟨by rw [hL3,List.length_set]; exact HL2_.out⟩
   have HV3:Aside0 (L3.getD 3 0=d):=⟨by rw [hL3,getD_set_ne _ _ _ _ (by decide)]; rw [hL2,getD_set_ne _ _ _ _ (by decide)]; rw [hL1,getD_set_ne _ _ _ _ (by decide)]; exact Hd.out.symm⟩
   have hc3:=(AK_cell HX3.out 3 (by rw [HL3_.out]; decide)).trans (by rw [HV3.out])
   have hf3:=frozen_of_row W3 g 3 _ _ HX3.out
   refine start_ (n:=16) (S:=fun w'=>w'.heap[g]? = some (.cells (AK .u8 L3) 101 (0,0))) (ds:=[15]) #[G,G,G,G,G,G,G,G,G,G,G,G,G,G,G,G] (by kernel_rfl) rfl rfl HX3.out (fun hHeld=>?_)
   refine with_tab (T:=rtab .any (opsOf Tryd.f100 8)) (by kernel_rfl) (fun HT_=>?_)
   refine zq 0 (some 86) ?_ #[O,G,G,G,G,G,G,G,G,G,G,G,G,G,G,G] rfl rfl (any_of HT_.out (by kernel_rfl)) (fun _ _ _ h=>h) (Or.inl ⟨by rfl,?_⟩) ?_ ?_ ?_
   rotate_left;(intro w';go_simp;with_reducible rfl);rotate_left;(simp only [Act.put,zp];rfl)
   refine zq 1 (some 87) ?_ #[O,O,G,G,G,G,G,G,G,G,G,G,G,G,G,G] rfl rfl (any_of HT_.out (by kernel_rfl)) (fun _ _ _ h=>h) (Or.inl ⟨by rfl,?_⟩) ?_ ?_ ?_
   rotate_left;(intro w';go_simp;with_reducible rfl);rotate_left;(simp only [Act.put,zp];rfl)
   refine zq 2 (some 88) ?_ #[O,O,O,G,G,G,G,G,G,G,G,G,G,G,G,G] rfl rfl (any_of HT_.out (by kernel_rfl)) (fun _ _ _ h=>h) (Or.inl ⟨by rfl,?_⟩) ?_ ?_ ?_
   rotate_left;(intro w';go_simp;with_reducible rfl);rotate_left;(simp only [Act.put,zp];rfl)
   refine zq 3 (some 89) ?_ #[O,O,O,O,G,G,G,G,G,G,G,G,G,G,G,G] rfl rfl (any_of HT_.out (by kernel_rfl)) (fun _ _ _ h=>h) (Or.inl ⟨by rfl,?_⟩) ?_ ?_ ?_
   rotate_left;(intro w';go_simp;with_reducible rfl);rotate_left;(simp only [Act.put,zp];rfl)
   refine zq 4 (some 90) ?_ #[O,O,O,O,O,G,G,G,G,G,G,G,G,G,G,G] rfl rfl (any_of HT_.out (by kernel_rfl)) (fun _ _ _ h=>h) (Or.inl ⟨by rfl,?_⟩) ?_ ?_ ?_
   rotate_left;(intro w';go_simp;with_reducible rfl);rotate_left;(simp only [Act.put,zp];rfl)
   refine take_ (i:=5) (N:=(some 91)) (v:=?_) (a':=?_) #[O,O,O,O,O,O,G,G,G,G,G,G,G,G,G,G] rfl rfl (take_of HT_.out (by kernel_rfl)) (fun _ _ _ h=>h) (Or.inl ⟨by rfl,?_⟩) hHeld ?_ ?_
   rotate_left
   ·intro w' hs'
    have hcl:=(AK_cell hs' 3 (by rw [HL3_.out]; decide)).trans (by rw [HV3.out])
    go_simp
    with_reducible rfl
   rotate_left
   ·simp only [Act.put,zp]
    rfl
   refine zq 6 (some 92) ?_ #[O,O,O,O,O,O,O,G,G,G,G,G,G,G,G,G] rfl rfl (any_of HT_.out (by kernel_rfl)) (fun _ _ _ h=>h) (Or.inl ⟨by rfl,?_⟩) ?_ ?_ ?_
   rotate_left;(intro w';go_simp;with_reducible rfl);rotate_left;(simp only [Act.put,zp];rfl)
   refine zq 7 (some 93) ?_ #[O,O,O,O,O,O,O,O,G,G,G,G,G,G,G,G] rfl rfl (any_of HT_.out (by kernel_rfl)) (fun _ _ _ h=>h) (Or.inl ⟨by rfl,?_⟩) ?_ ?_ ?_
   rotate_left;(intro w';go_simp;with_reducible rfl);rotate_left;(simp only [Act.put,zp];rfl)
   refine zq 8 (some 94) ?_ #[O,O,O,O,O,O,O,O,O,G,G,G,G,G,G,G] rfl rfl (any_of HT_.out (by kernel_rfl)) (fun _ _ _ h=>h) (Or.inl ⟨by rfl,?_⟩) ?_ ?_ ?_
   rotate_left;(intro w';go_simp;with_reducible rfl);rotate_left;(simp only [Act.put,zp];rfl)
   refine zq 9 (some 95) ?_ #[O,O,O,O,O,O,O,O,O,O,G,G,G,G,G,G] rfl rfl (any_of HT_.out (by kernel_rfl)) (fun _ _ _ h=>h) (Or.inl ⟨by rfl,?_⟩) ?_ ?_ ?_
   rotate_left;(intro w';go_simp;with_reducible rfl);rotate_left;(simp only [Act.put,zp];rfl)
   refine zq 13 (some 99) ?_ #[O,O,O,O,O,O,O,O,O,O,G,G,G,O,G,G] rfl rfl (any_of HT_.out (by kernel_rfl)) (fun _ _ _ h=>h) (Or.inl ⟨by rfl,?_⟩) ?_ ?_ ?_
   rotate_left;(intro w';go_simp;with_reducible rfl);rotate_left;(simp only [Act.put,zp];rfl)
   refine one_ (i:=10) (N:=(some 96)) #[O,O,O,O,O,O,O,O,O,O,O,G,G,O,G,G] rfl rfl (one_of HT_.out (by kernel_rfl)) (by decide) (fun K hK=>?_)
   refine goes_ Tryd.func102 (by kernel_rfl) rfl #[.int .u8 (Go.bits .xor .u8 d a)] (by rfl) rfl rfl (by (try simp only [zm]); first|done|rfl) ?_
   refine (aes_twice.calls _ _ _ (tw_some (Go.bits .xor .u8 d a))).mono ?_
   rintro e w2 ⟨rfl,m,rfl⟩
   refine ⟨_,rfl,?_⟩
   refine hK.out _ _ HX3.out (fun hHeld=>?_)
   clear hK K
   refine norm_ (a':=?_) ?_ ?_
   rotate_left
   ·show Act.put _ (some 96) _=_
    simp only [Act.put,zp]
    rfl
   refine zq 11 (some 97) ?_ #[O,O,O,O,O,O,O,O,O,O,O,O,G,O,G,G] rfl rfl (any_of HT_.out (by kernel_rfl)) (fun _ _ _ h=>h) (Or.inl ⟨by rfl,?_⟩) ?_ ?_ ?_
   rotate_left;(intro w';go_simp;with_reducible rfl);rotate_left;(simp only [Act.put,zp];rfl)
   refine zq 12 (some 98) ?_ #[O,O,O,O,O,O,O,O,O,O,O,O,O,O,G,G] rfl rfl (any_of HT_.out (by kernel_rfl)) (fun _ _ _ h=>h) (Or.inl ⟨by rfl,?_⟩) ?_ ?_ ?_
   rotate_left;(intro w';go_simp;with_reducible rfl);rotate_left;(simp only [Act.put,zp];rfl)
   refine zq 14 (some 100) ?_ #[O,O,O,O,O,O,O,O,O,O,O,O,O,O,O,G] rfl rfl (any_of HT_.out (by kernel_rfl)) (fun _ _ _ h=>h) (Or.inl ⟨by rfl,?_⟩) ?_ ?_ ?_
   rotate_left;(intro w';go_simp;with_reducible rfl);rotate_left;(simp only [Act.put,zp];rfl)
   refine last_ (i:=15) (N:=none) #[O,O,O,O,O,O,O,O,O,O,O,O,O,O,O,O] rfl rfl (one_of HT_.out (by kernel_rfl)) (by decide) (fun K hK=>?_)
   refine skip_ (w1:=?_) (by rfl) rfl ?_ ?_
   rotate_left
   ·go_simp
    rfl
   refine hK.out _ _ ?_
   clear hK K
   refine done_ (done_of HT_.out (by kernel_rfl)) ?_
   clear hc3 hf3
   try go_wp2
   go_roundw
   case rel =>
    refine ⟨0+1,by omega,by first|rfl|go_num,⟨?_⟩,⟨?_⟩⟩
    ·refine (AK_store (w:=W3.drewN _) HX3.out 3 _).trans ?_
     have e:mxS s (0+1)=mx4 L 0 a b c d (x8 (x8 (x8 a b) c) d):=by rw [Ha.out,Hb.out,Hc.out,Hd.out,HLe.out]; rfl
     rw [e,hL3,hL2,hL1]; rfl
    ·exact grown_set (grown_drewN HW3.out _) _ _
   case measure=>simp [intOf]
  ·have HL:Aside0 ((mxS s 1).length=16):=⟨by rw [mxS_len,HS.out]⟩
   obtain ⟨L,hL⟩:∃ L,L=mxS s 1:=⟨_,rfl⟩
   rw [← hL] at HX HL
   have HLe:=zK hL
   clear hL
   have c0:=AK_cell HX.out 4 (by rw [HL.out]; decide)
   obtain ⟨a,ha⟩:∃ x,x=L.getD 4 0:=⟨_,rfl⟩
   rw [← ha] at c0
   have Ha:=zK ha
   clear ha
   have c1:=AK_cell HX.out 5 (by rw [HL.out]; decide)
   obtain ⟨b,hb⟩:∃ x,x=L.getD 5 0:=⟨_,rfl⟩
   rw [← hb] at c1
   have Hb:=zK hb
   clear hb
   have c2:=AK_cell HX.out 6 (by rw [HL.out]; decide)
   obtain ⟨c,hc⟩:∃ x,x=L.getD 6 0:=⟨_,rfl⟩
   rw [← hc] at c2
   have Hc:=zK hc
   clear hc
   have c3:=AK_cell HX.out 7 (by rw [HL.out]; decide)
   obtain ⟨d,hd⟩:∃ x,x=L.getD 7 0:=⟨_,rfl⟩
   rw [← hd] at c3
   have Hd:=zK hd
   clear hd
   have e4_:IntKind.i64.wrap 4=4:=rfl
   have e5_:IntKind.i64.wrap 5=5:=rfl
   have e6_:IntKind.i64.wrap 6=6:=rfl
   have e7_:IntKind.i64.wrap 7=7:=rfl
   have e8_:IntKind.i64.wrap 8=8:=rfl
   go_wp2_with fail
   go_quiet (fail)
   go_wp2_with fail
   clear c0 c1 c2 c3
   refine code_at (fun W=>W.heap[g]? = some (.cells (AK .u8 L) 101 (0,0))∧w.grownBy W (some g)) ⟨?_,?_⟩ ?_
   ·exact HX.out
   ·exact grown_drewN HW.out _
   intro W0 hW0
   have HX0:=zK hW0.1
   have HW0:=zK hW0.2
   clear hW0
   have HL0_:Aside0 (L.length=16):=⟨by exact HL.out⟩
   have HV0:Aside0 (L.getD 4 0=a):=⟨by exact Ha.out.symm⟩
   have hc0:=(AK_cell HX0.out 4 (by rw [HL0_.out]; decide)).trans (by rw [HV0.out])
   have hf0:=frozen_of_row W0 g 4 _ _ HX0.out
   refine start_ (n:=15) (S:=fun w'=>w'.heap[g]? = some (.cells (AK .u8 L) 101 (0,0))) (ds:=[14]) #[G,G,G,G,G,G,G,G,G,G,G,G,G,G,G] (by kernel_rfl) rfl rfl HX0.out (fun hHeld=>?_)
   refine with_tab (T:=rtab .any (opsOf Tryd.f100 5)) (by kernel_rfl) (fun HT_=>?_)
   refine zq 0 (some 42) ?_ #[O,G,G,G,G,G,G,G,G,G,G,G,G,G,G] rfl rfl (any_of HT_.out (by kernel_rfl)) (fun _ _ _ h=>h) (Or.inl ⟨by rfl,?_⟩) ?_ ?_ ?_
   rotate_left;(intro w';go_simp;with_reducible rfl);rotate_left;(simp only [Act.put,zp];rfl)
   refine zq 1 (some 43) ?_ #[O,O,G,G,G,G,G,G,G,G,G,G,G,G,G] rfl rfl (any_of HT_.out (by kernel_rfl)) (fun _ _ _ h=>h) (Or.inl ⟨by rfl,?_⟩) ?_ ?_ ?_
   rotate_left;(intro w';go_simp;with_reducible rfl);rotate_left;(simp only [Act.put,zp];rfl)
   refine zq 2 (some 44) ?_ #[O,O,O,G,G,G,G,G,G,G,G,G,G,G,G] rfl rfl (any_of HT_.out (by kernel_rfl)) (fun _ _ _ h=>h) (Or.inl ⟨by rfl,?_⟩) ?_ ?_ ?_
   rotate_left;(intro w';go_simp;with_reducible rfl);rotate_left;(simp only [Act.put,zp];rfl)
   refine zq 3 (some 45) ?_ #[O,O,O,O,G,G,G,G,G,G,G,G,G,G,G] rfl rfl (any_of HT_.out (by kernel_rfl)) (fun _ _ _ h=>h) (Or.inl ⟨by rfl,?_⟩) ?_ ?_ ?_
   rotate_left;(intro w';go_simp;with_reducible rfl);rotate_left;(simp only [Act.put,zp];rfl)
   refine take_ (i:=4) (N:=(some 46)) (v:=?_) (a':=?_) #[O,O,O,O,O,G,G,G,G,G,G,G,G,G,G] rfl rfl (take_of HT_.out (by kernel_rfl)) (fun _ _ _ h=>h) (Or.inl ⟨by rfl,?_⟩) hHeld ?_ ?_
   rotate_left
   ·intro w' hs'
    have hcl:=(AK_cell hs' 4 (by rw [HL0_.out]; decide)).trans (by rw [HV0.out])
    go_simp
    with_reducible rfl
   rotate_left
   ·simp only [Act.put,zp]
    rfl
   refine zq 5 (some 47) ?_ #[O,O,O,O,O,O,G,G,G,G,G,G,G,G,G] rfl rfl (any_of HT_.out (by kernel_rfl)) (fun _ _ _ h=>h) (Or.inl ⟨by rfl,?_⟩) ?_ ?_ ?_
   rotate_left;(intro w';go_simp;with_reducible rfl);rotate_left;(simp only [Act.put,zp];rfl)
   refine zq 6 (some 48) ?_ #[O,O,O,O,O,O,O,G,G,G,G,G,G,G,G] rfl rfl (any_of HT_.out (by kernel_rfl)) (fun _ _ _ h=>h) (Or.inl ⟨by rfl,?_⟩) ?_ ?_ ?_
   rotate_left;(intro w';go_simp;with_reducible rfl);rotate_left;(simp only [Act.put,zp];rfl)
   refine zq 7 (some 49) ?_ #[O,O,O,O,O,O,O,O,G,G,G,G,G,G,G] rfl rfl (any_of HT_.out (by kernel_rfl)) (fun _ _ _ h=>h) (Or.inl ⟨by rfl,?_⟩) ?_ ?_ ?_
   rotate_left;(intro w';go_simp;with_reducible rfl);rotate_left;(simp only [Act.put,zp];rfl)
   refine zq 8 (some 50) ?_ #[O,O,O,O,O,O,O,O,O,G,G,G,G,G,G] rfl rfl (any_of HT_.out (by kernel_rfl)) (fun _ _ _ h=>h) (Or.inl ⟨by rfl,?_⟩) ?_ ?_ ?_
   rotate_left;(intro w';go_simp;with_reducible rfl);rotate_left;(simp only [Act.put,zp];rfl)
   refine zq 12 (some 54) ?_ #[O,O,O,O,O,O,O,O,O,G,G,G,O,G,G] rfl rfl (any_of HT_.out (by kernel_rfl)) (fun _ _ _ h=>h) (Or.inl ⟨by rfl,?_⟩) ?_ ?_ ?_
   rotate_left;(intro w';go_simp;with_reducible rfl);rotate_left;(simp only [Act.put,zp];rfl)
   refine one_ (i:=9) (N:=(some 51)) #[O,O,O,O,O,O,O,O,O,O,G,G,O,G,G] rfl rfl (one_of HT_.out (by kernel_rfl)) (by decide) (fun K hK=>?_)
   refine goes_ Tryd.func102 (by kernel_rfl) rfl #[.int .u8 (Go.bits .xor .u8 a b)] (by rfl) rfl rfl (by (try simp only [zm]); first|done|rfl) ?_
   refine (aes_twice.calls _ _ _ (tw_some (Go.bits .xor .u8 a b))).mono ?_
   rintro e w2 ⟨rfl,m,rfl⟩
   refine ⟨_,rfl,?_⟩
   refine hK.out _ _ HX0.out (fun hHeld=>?_)
   clear hK K
   refine norm_ (a':=?_) ?_ ?_
   rotate_left
   ·show Act.put _ (some 51) _=_
    simp only [Act.put,zp]
    rfl
   refine zq 10 (some 52) ?_ #[O,O,O,O,O,O,O,O,O,O,O,G,O,G,G] rfl rfl (any_of HT_.out (by kernel_rfl)) (fun _ _ _ h=>h) (Or.inl ⟨by rfl,?_⟩) ?_ ?_ ?_
   rotate_left;(intro w';go_simp;with_reducible rfl);rotate_left;(simp only [Act.put,zp];rfl)
   refine zq 11 (some 53) ?_ #[O,O,O,O,O,O,O,O,O,O,O,O,O,G,G] rfl rfl (any_of HT_.out (by kernel_rfl)) (fun _ _ _ h=>h) (Or.inl ⟨by rfl,?_⟩) ?_ ?_ ?_
   rotate_left;(intro w';go_simp;with_reducible rfl);rotate_left;(simp only [Act.put,zp];rfl)
   refine zq 13 (some 55) ?_ #[O,O,O,O,O,O,O,O,O,O,O,O,O,O,G] rfl rfl (any_of HT_.out (by kernel_rfl)) (fun _ _ _ h=>h) (Or.inl ⟨by rfl,?_⟩) ?_ ?_ ?_
   rotate_left;(intro w';go_simp;with_reducible rfl);rotate_left;(simp only [Act.put,zp];rfl)
   refine last_ (i:=14) (N:=none) #[O,O,O,O,O,O,O,O,O,O,O,O,O,O,O] rfl rfl (one_of HT_.out (by kernel_rfl)) (by decide) (fun K hK=>?_)
   refine skip_ (w1:=?_) (by rfl) rfl ?_ ?_
   rotate_left
   ·go_simp
    rfl
   refine hK.out _ _ ?_
   clear hK K
   refine done_ (done_of HT_.out (by kernel_rfl)) ?_
   clear hc0 hf0
   obtain ⟨L1,hL1⟩:∃ x,x=L.set 4 (Go.bits .xor .u8 a (Go.bits .xor .u8 (Go.bits .xor .u8 (Go.bits .xor .u8 (Go.bits .xor .u8 a b) c) d) (tw (Go.bits .xor .u8 a b)))):=⟨_,rfl⟩
   try go_wp2_with fail
   refine code_at (fun W=>W.heap[g]? = some (.cells (AK .u8 L1) 101 (0,0))∧w.grownBy W (some g)) ⟨?_,?_⟩ ?_
   ·exact (AK_store (w:=W0.drewN _) HX0.out 4 _).trans (by rw [hL1])
   ·exact grown_set (grown_drewN HW0.out _) _ _
   intro W1 hW1
   have HX1:=zK hW1.1
   have HW1:=zK hW1.2
   clear hW1
   have HL1_:Aside0 (L1.length=16):=⟨by rw [hL1,List.length_set]; exact HL0_.out⟩
   have HV1:Aside0 (L1.getD 5 0=b):=⟨by rw [hL1,getD_set_ne _ _ _ _ (by decide)]; exact Hb.out.symm⟩
   have hc1:=(AK_cell HX1.out 5 (by rw [HL1_.out]; decide)).trans (by rw [HV1.out])
   have hf1:=frozen_of_row W1 g 5 _ _ HX1.out
   refine start_ (n:=16) (S:=fun w'=>w'.heap[g]? = some (.cells (AK .u8 L1) 101 (0,0))) (ds:=[15]) #[G,G,G,G,G,G,G,G,G,G,G,G,G,G,G,G] (by kernel_rfl) rfl rfl HX1.out (fun hHeld=>?_)
   refine with_tab (T:=rtab .any (opsOf Tryd.f100 6)) (by kernel_rfl) (fun HT_=>?_)
   refine zq 0 (some 56) ?_ #[O,G,G,G,G,G,G,G,G,G,G,G,G,G,G,G] rfl rfl (any_of HT_.out (by kernel_rfl)) (fun _ _ _ h=>h) (Or.inl ⟨by rfl,?_⟩) ?_ ?_ ?_
   rotate_left;(intro w';go_simp;with_reducible rfl);rotate_left;(simp only [Act.put,zp];rfl)
   refine zq 1 (some 57) ?_ #[O,O,G,G,G,G,G,G,G,G,G,G,G,G,G,G] rfl rfl (any_of HT_.out (by kernel_rfl)) (fun _ _ _ h=>h) (Or.inl ⟨by rfl,?_⟩) ?_ ?_ ?_
   rotate_left;(intro w';go_simp;with_reducible rfl);rotate_left;(simp only [Act.put,zp];rfl)
   refine zq 2 (some 58) ?_ #[O,O,O,G,G,G,G,G,G,G,G,G,G,G,G,G] rfl rfl (any_of HT_.out (by kernel_rfl)) (fun _ _ _ h=>h) (Or.inl ⟨by rfl,?_⟩) ?_ ?_ ?_
   rotate_left;(intro w';go_simp;with_reducible rfl);rotate_left;(simp only [Act.put,zp];rfl)
   refine zq 3 (some 59) ?_ #[O,O,O,O,G,G,G,G,G,G,G,G,G,G,G,G] rfl rfl (any_of HT_.out (by kernel_rfl)) (fun _ _ _ h=>h) (Or.inl ⟨by rfl,?_⟩) ?_ ?_ ?_
   rotate_left;(intro w';go_simp;with_reducible rfl);rotate_left;(simp only [Act.put,zp];rfl)
   refine zq 4 (some 60) ?_ #[O,O,O,O,O,G,G,G,G,G,G,G,G,G,G,G] rfl rfl (any_of HT_.out (by kernel_rfl)) (fun _ _ _ h=>h) (Or.inl ⟨by rfl,?_⟩) ?_ ?_ ?_
   rotate_left;(intro w';go_simp;with_reducible rfl);rotate_left;(simp only [Act.put,zp];rfl)
   refine take_ (i:=5) (N:=(some 61)) (v:=?_) (a':=?_) #[O,O,O,O,O,O,G,G,G,G,G,G,G,G,G,G] rfl rfl (take_of HT_.out (by kernel_rfl)) (fun _ _ _ h=>h) (Or.inl ⟨by rfl,?_⟩) hHeld ?_ ?_
   rotate_left
   ·intro w' hs'
    have hcl:=(AK_cell hs' 5 (by rw [HL1_.out]; decide)).trans (by rw [HV1.out])
    go_simp
    with_reducible rfl
   rotate_left
   ·simp only [Act.put,zp]
    rfl
   refine zq 6 (some 62) ?_ #[O,O,O,O,O,O,O,G,G,G,G,G,G,G,G,G] rfl rfl (any_of HT_.out (by kernel_rfl)) (fun _ _ _ h=>h) (Or.inl ⟨by rfl,?_⟩) ?_ ?_ ?_
   rotate_left;(intro w';go_simp;with_reducible rfl);rotate_left;(simp only [Act.put,zp];rfl)
   refine zq 7 (some 63) ?_ #[O,O,O,O,O,O,O,O,G,G,G,G,G,G,G,G] rfl rfl (any_of HT_.out (by kernel_rfl)) (fun _ _ _ h=>h) (Or.inl ⟨by rfl,?_⟩) ?_ ?_ ?_
   rotate_left;(intro w';go_simp;with_reducible rfl);rotate_left;(simp only [Act.put,zp];rfl)
   refine zq 8 (some 64) ?_ #[O,O,O,O,O,O,O,O,O,G,G,G,G,G,G,G] rfl rfl (any_of HT_.out (by kernel_rfl)) (fun _ _ _ h=>h) (Or.inl ⟨by rfl,?_⟩) ?_ ?_ ?_
   rotate_left;(intro w';go_simp;with_reducible rfl);rotate_left;(simp only [Act.put,zp];rfl)
   refine zq 9 (some 65) ?_ #[O,O,O,O,O,O,O,O,O,O,G,G,G,G,G,G] rfl rfl (any_of HT_.out (by kernel_rfl)) (fun _ _ _ h=>h) (Or.inl ⟨by rfl,?_⟩) ?_ ?_ ?_
   rotate_left;(intro w';go_simp;with_reducible rfl);rotate_left;(simp only [Act.put,zp];rfl)
   refine zq 13 (some 69) ?_ #[O,O,O,O,O,O,O,O,O,O,G,G,G,O,G,G] rfl rfl (any_of HT_.out (by kernel_rfl)) (fun _ _ _ h=>h) (Or.inl ⟨by rfl,?_⟩) ?_ ?_ ?_
   rotate_left;(intro w';go_simp;with_reducible rfl);rotate_left;(simp only [Act.put,zp];rfl)
   refine one_ (i:=10) (N:=(some 66)) #[O,O,O,O,O,O,O,O,O,O,O,G,G,O,G,G] rfl rfl (one_of HT_.out (by kernel_rfl)) (by decide) (fun K hK=>?_)
   refine goes_ Tryd.func102 (by kernel_rfl) rfl #[.int .u8 (Go.bits .xor .u8 b c)] (by rfl) rfl rfl (by (try simp only [zm]); first|done|rfl) ?_
   refine (aes_twice.calls _ _ _ (tw_some (Go.bits .xor .u8 b c))).mono ?_
   rintro e w2 ⟨rfl,m,rfl⟩
   refine ⟨_,rfl,?_⟩
   refine hK.out _ _ HX1.out (fun hHeld=>?_)
   clear hK K
   refine norm_ (a':=?_) ?_ ?_
   rotate_left
   ·show Act.put _ (some 66) _=_
    simp only [Act.put,zp]
    rfl
   refine zq 11 (some 67) ?_ #[O,O,O,O,O,O,O,O,O,O,O,O,G,O,G,G] rfl rfl (any_of HT_.out (by kernel_rfl)) (fun _ _ _ h=>h) (Or.inl ⟨by rfl,?_⟩) ?_ ?_ ?_
   rotate_left;(intro w';go_simp;with_reducible rfl);rotate_left;(simp only [Act.put,zp];rfl)
   refine zq 12 (some 68) ?_ #[O,O,O,O,O,O,O,O,O,O,O,O,O,O,G,G] rfl rfl (any_of HT_.out (by kernel_rfl)) (fun _ _ _ h=>h) (Or.inl ⟨by rfl,?_⟩) ?_ ?_ ?_
   rotate_left;(intro w';go_simp;with_reducible rfl);rotate_left;(simp only [Act.put,zp];rfl)
   refine zq 14 (some 70) ?_ #[O,O,O,O,O,O,O,O,O,O,O,O,O,O,O,G] rfl rfl (any_of HT_.out (by kernel_rfl)) (fun _ _ _ h=>h) (Or.inl ⟨by rfl,?_⟩) ?_ ?_ ?_
   rotate_left;(intro w';go_simp;with_reducible rfl);rotate_left;(simp only [Act.put,zp];rfl)
   refine last_ (i:=15) (N:=none) #[O,O,O,O,O,O,O,O,O,O,O,O,O,O,O,O] rfl rfl (one_of HT_.out (by kernel_rfl)) (by decide) (fun K hK=>?_)
   refine skip_ (w1:=?_) (by rfl) rfl ?_ ?_
   rotate_left
   ·go_simp
    rfl
   refine hK.out _ _ ?_
   clear hK K
   refine done_ (done_of HT_.out (by kernel_rfl)) ?_
   clear hc1 hf1
   obtain ⟨L2,hL2⟩:∃ x,x=L1.set 5 (Go.bits .xor .u8 b (Go.bits .xor .u8 (Go.bits .xor .u8 (Go.bits .xor .u8 (Go.bits .xor .u8 a b) c) d) (tw (Go.bits .xor .u8 b c)))):=⟨_,rfl⟩
   try go_wp2_with fail
   refine code_at (fun W=>W.heap[g]? = some (.cells (AK .u8 L2) 101 (0,0))∧w.grownBy W (some g)) ⟨?_,?_⟩ ?_
   ·exact (AK_store (w:=W1.drewN _) HX1.out 5 _).trans (by rw [hL2])
   ·exact grown_set (grown_drewN HW1.out _) _ _
   intro W2 hW2
   have HX2:=zK hW2.1
   have HW2:=zK hW2.2
   clear hW2
   have HL2_:Aside0 (L2.length=16):=⟨by rw [hL2,List.length_set]; exact HL1_.out⟩
   have HV2:Aside0 (L2.getD 6 0=c):=⟨by rw [hL2,getD_set_ne _ _ _ _ (by decide)]; rw [hL1,getD_set_ne _ _ _ _ (by decide)]; exact Hc.out.symm⟩
   have hc2:=(AK_cell HX2.out 6 (by rw [HL2_.out]; decide)).trans (by rw [HV2.out])
   have hf2:=frozen_of_row W2 g 6 _ _ HX2.out
   refine start_ (n:=16) (S:=fun w'=>w'.heap[g]? = some (.cells (AK .u8 L2) 101 (0,0))) (ds:=[15]) #[G,G,G,G,G,G,G,G,G,G,G,G,G,G,G,G] (by kernel_rfl) rfl rfl HX2.out (fun hHeld=>?_)
   refine with_tab (T:=rtab .any (opsOf Tryd.f100 7)) (by kernel_rfl) (fun HT_=>?_)
   refine zq 0 (some 71) ?_ #[O,G,G,G,G,G,G,G,G,G,G,G,G,G,G,G] rfl rfl (any_of HT_.out (by kernel_rfl)) (fun _ _ _ h=>h) (Or.inl ⟨by rfl,?_⟩) ?_ ?_ ?_
   rotate_left;(intro w';go_simp;with_reducible rfl);rotate_left;(simp only [Act.put,zp];rfl)
   refine zq 1 (some 72) ?_ #[O,O,G,G,G,G,G,G,G,G,G,G,G,G,G,G] rfl rfl (any_of HT_.out (by kernel_rfl)) (fun _ _ _ h=>h) (Or.inl ⟨by rfl,?_⟩) ?_ ?_ ?_
   rotate_left;(intro w';go_simp;with_reducible rfl);rotate_left;(simp only [Act.put,zp];rfl)
   refine zq 2 (some 73) ?_ #[O,O,O,G,G,G,G,G,G,G,G,G,G,G,G,G] rfl rfl (any_of HT_.out (by kernel_rfl)) (fun _ _ _ h=>h) (Or.inl ⟨by rfl,?_⟩) ?_ ?_ ?_
   rotate_left;(intro w';go_simp;with_reducible rfl);rotate_left;(simp only [Act.put,zp];rfl)
   refine zq 3 (some 74) ?_ #[O,O,O,O,G,G,G,G,G,G,G,G,G,G,G,G] rfl rfl (any_of HT_.out (by kernel_rfl)) (fun _ _ _ h=>h) (Or.inl ⟨by rfl,?_⟩) ?_ ?_ ?_
   rotate_left;(intro w';go_simp;with_reducible rfl);rotate_left;(simp only [Act.put,zp];rfl)
   refine zq 4 (some 75) ?_ #[O,O,O,O,O,G,G,G,G,G,G,G,G,G,G,G] rfl rfl (any_of HT_.out (by kernel_rfl)) (fun _ _ _ h=>h) (Or.inl ⟨by rfl,?_⟩) ?_ ?_ ?_
   rotate_left;(intro w';go_simp;with_reducible rfl);rotate_left;(simp only [Act.put,zp];rfl)
   refine take_ (i:=5) (N:=(some 76)) (v:=?_) (a':=?_) #[O,O,O,O,O,O,G,G,G,G,G,G,G,G,G,G] rfl rfl (take_of HT_.out (by kernel_rfl)) (fun _ _ _ h=>h) (Or.inl ⟨by rfl,?_⟩) hHeld ?_ ?_
   rotate_left
   ·intro w' hs'
    have hcl:=(AK_cell hs' 6 (by rw [HL2_.out]; decide)).trans (by rw [HV2.out])
    go_simp
    with_reducible rfl
   rotate_left
   ·simp only [Act.put,zp]
    rfl
   refine zq 6 (some 77) ?_ #[O,O,O,O,O,O,O,G,G,G,G,G,G,G,G,G] rfl rfl (any_of HT_.out (by kernel_rfl)) (fun _ _ _ h=>h) (Or.inl ⟨by rfl,?_⟩) ?_ ?_ ?_
   rotate_left;(intro w';go_simp;with_reducible rfl);rotate_left;(simp only [Act.put,zp];rfl)
   refine zq 7 (some 78) ?_ #[O,O,O,O,O,O,O,O,G,G,G,G,G,G,G,G] rfl rfl (any_of HT_.out (by kernel_rfl)) (fun _ _ _ h=>h) (Or.inl ⟨by rfl,?_⟩) ?_ ?_ ?_
   rotate_left;(intro w';go_simp;with_reducible rfl);rotate_left;(simp only [Act.put,zp];rfl)
   refine zq 8 (some 79) ?_ #[O,O,O,O,O,O,O,O,O,G,G,G,G,G,G,G] rfl rfl (any_of HT_.out (by kernel_rfl)) (fun _ _ _ h=>h) (Or.inl ⟨by rfl,?_⟩) ?_ ?_ ?_
   rotate_left;(intro w';go_simp;with_reducible rfl);rotate_left;(simp only [Act.put,zp];rfl)
   refine zq 9 (some 80) ?_ #[O,O,O,O,O,O,O,O,O,O,G,G,G,G,G,G] rfl rfl (any_of HT_.out (by kernel_rfl)) (fun _ _ _ h=>h) (Or.inl ⟨by rfl,?_⟩) ?_ ?_ ?_
   rotate_left;(intro w';go_simp;with_reducible rfl);rotate_left;(simp only [Act.put,zp];rfl)
   refine zq 13 (some 84) ?_ #[O,O,O,O,O,O,O,O,O,O,G,G,G,O,G,G] rfl rfl (any_of HT_.out (by kernel_rfl)) (fun _ _ _ h=>h) (Or.inl ⟨by rfl,?_⟩) ?_ ?_ ?_
   rotate_left;(intro w';go_simp;with_reducible rfl);rotate_left;(simp only [Act.put,zp];rfl)
   refine one_ (i:=10) (N:=(some 81)) #[O,O,O,O,O,O,O,O,O,O,O,G,G,O,G,G] rfl rfl (one_of HT_.out (by kernel_rfl)) (by decide) (fun K hK=>?_)
   refine goes_ Tryd.func102 (by kernel_rfl) rfl #[.int .u8 (Go.bits .xor .u8 c d)] (by rfl) rfl rfl (by (try simp only [zm]); first|done|rfl) ?_
   refine (aes_twice.calls _ _ _ (tw_some (Go.bits .xor .u8 c d))).mono ?_
   rintro e w2 ⟨rfl,m,rfl⟩
   refine ⟨_,rfl,?_⟩
   refine hK.out _ _ HX2.out (fun hHeld=>?_)
   clear hK K
   refine norm_ (a':=?_) ?_ ?_
   rotate_left
   ·show Act.put _ (some 81) _=_
    simp only [Act.put,zp]
    rfl
   refine zq 11 (some 82) ?_ #[O,O,O,O,O,O,O,O,O,O,O,O,G,O,G,G] rfl rfl (any_of HT_.out (by kernel_rfl)) (fun _ _ _ h=>h) (Or.inl ⟨by rfl,?_⟩) ?_ ?_ ?_
   rotate_left;(intro w';go_simp;with_reducible rfl);rotate_left;(simp only [Act.put,zp];rfl)
   refine zq 12 (some 83) ?_ #[O,O,O,O,O,O,O,O,O,O,O,O,O,O,G,G] rfl rfl (any_of HT_.out (by kernel_rfl)) (fun _ _ _ h=>h) (Or.inl ⟨by rfl,?_⟩) ?_ ?_ ?_
   rotate_left;(intro w';go_simp;with_reducible rfl);rotate_left;(simp only [Act.put,zp];rfl)
   refine zq 14 (some 85) ?_ #[O,O,O,O,O,O,O,O,O,O,O,O,O,O,O,G] rfl rfl (any_of HT_.out (by kernel_rfl)) (fun _ _ _ h=>h) (Or.inl ⟨by rfl,?_⟩) ?_ ?_ ?_
   rotate_left;(intro w';go_simp;with_reducible rfl);rotate_left;(simp only [Act.put,zp];rfl)
   refine last_ (i:=15) (N:=none) #[O,O,O,O,O,O,O,O,O,O,O,O,O,O,O,O] rfl rfl (one_of HT_.out (by kernel_rfl)) (by decide) (fun K hK=>?_)
   refine skip_ (w1:=?_) (by rfl) rfl ?_ ?_
   rotate_left
   ·go_simp
    rfl
   refine hK.out _ _ ?_
   clear hK K
   refine done_ (done_of HT_.out (by kernel_rfl)) ?_
   clear hc2 hf2
   obtain ⟨L3,hL3⟩:∃ x,x=L2.set 6 (Go.bits .xor .u8 c (Go.bits .xor .u8 (Go.bits .xor .u8 (Go.bits .xor .u8 (Go.bits .xor .u8 a b) c) d) (tw (Go.bits .xor .u8 c d)))):=⟨_,rfl⟩
   try go_wp2_with fail
   refine code_at (fun W=>W.heap[g]? = some (.cells (AK .u8 L3) 101 (0,0))∧w.grownBy W (some g)) ⟨?_,?_⟩ ?_
   ·exact (AK_store (w:=W2.drewN _) HX2.out 6 _).trans (by rw [hL3])
   ·exact grown_set (grown_drewN HW2.out _) _ _
   intro W3 hW3
   have HX3:=zK hW3.1
   have HW3:=zK hW3.2
   clear hW3
   have HL3_:Aside0 (L3.length=16):=⟨by rw [hL3,List.length_set]; exact HL2_.out⟩
   have HV3:Aside0 (L3.getD 7 0=d):=⟨by rw [hL3,getD_set_ne _ _ _ _ (by decide)]; rw [hL2,getD_set_ne _ _ _ _ (by decide)]; rw [hL1,getD_set_ne _ _ _ _ (by decide)]; exact Hd.out.symm⟩
   have hc3:=(AK_cell HX3.out 7 (by rw [HL3_.out]; decide)).trans (by rw [HV3.out])
   have hf3:=frozen_of_row W3 g 7 _ _ HX3.out
   refine start_ (n:=16) (S:=fun w'=>w'.heap[g]? = some (.cells (AK .u8 L3) 101 (0,0))) (ds:=[15]) #[G,G,G,G,G,G,G,G,G,G,G,G,G,G,G,G] (by kernel_rfl) rfl rfl HX3.out (fun hHeld=>?_)
   refine with_tab (T:=rtab .any (opsOf Tryd.f100 8)) (by kernel_rfl) (fun HT_=>?_)
   refine zq 0 (some 86) ?_ #[O,G,G,G,G,G,G,G,G,G,G,G,G,G,G,G] rfl rfl (any_of HT_.out (by kernel_rfl)) (fun _ _ _ h=>h) (Or.inl ⟨by rfl,?_⟩) ?_ ?_ ?_
   rotate_left;(intro w';go_simp;with_reducible rfl);rotate_left;(simp only [Act.put,zp];rfl)
   refine zq 1 (some 87) ?_ #[O,O,G,G,G,G,G,G,G,G,G,G,G,G,G,G] rfl rfl (any_of HT_.out (by kernel_rfl)) (fun _ _ _ h=>h) (Or.inl ⟨by rfl,?_⟩) ?_ ?_ ?_
   rotate_left;(intro w';go_simp;with_reducible rfl);rotate_left;(simp only [Act.put,zp];rfl)
   refine zq 2 (some 88) ?_ #[O,O,O,G,G,G,G,G,G,G,G,G,G,G,G,G] rfl rfl (any_of HT_.out (by kernel_rfl)) (fun _ _ _ h=>h) (Or.inl ⟨by rfl,?_⟩) ?_ ?_ ?_
   rotate_left;(intro w';go_simp;with_reducible rfl);rotate_left;(simp only [Act.put,zp];rfl)
   refine zq 3 (some 89) ?_ #[O,O,O,O,G,G,G,G,G,G,G,G,G,G,G,G] rfl rfl (any_of HT_.out (by kernel_rfl)) (fun _ _ _ h=>h) (Or.inl ⟨by rfl,?_⟩) ?_ ?_ ?_
   rotate_left;(intro w';go_simp;with_reducible rfl);rotate_left;(simp only [Act.put,zp];rfl)
   refine zq 4 (some 90) ?_ #[O,O,O,O,O,G,G,G,G,G,G,G,G,G,G,G] rfl rfl (any_of HT_.out (by kernel_rfl)) (fun _ _ _ h=>h) (Or.inl ⟨by rfl,?_⟩) ?_ ?_ ?_
   rotate_left;(intro w';go_simp;with_reducible rfl);rotate_left;(simp only [Act.put,zp];rfl)
   refine take_ (i:=5) (N:=(some 91)) (v:=?_) (a':=?_) #[O,O,O,O,O,O,G,G,G,G,G,G,G,G,G,G] rfl rfl (take_of HT_.out (by kernel_rfl)) (fun _ _ _ h=>h) (Or.inl ⟨by rfl,?_⟩) hHeld ?_ ?_
   rotate_left
   ·intro w' hs'
    have hcl:=(AK_cell hs' 7 (by rw [HL3_.out]; decide)).trans (by rw [HV3.out])
    go_simp
    with_reducible rfl
   rotate_left
   ·simp only [Act.put,zp]
    rfl
   refine zq 6 (some 92) ?_ #[O,O,O,O,O,O,O,G,G,G,G,G,G,G,G,G] rfl rfl (any_of HT_.out (by kernel_rfl)) (fun _ _ _ h=>h) (Or.inl ⟨by rfl,?_⟩) ?_ ?_ ?_
   rotate_left;(intro w';go_simp;with_reducible rfl);rotate_left;(simp only [Act.put,zp];rfl)
   refine zq 7 (some 93) ?_ #[O,O,O,O,O,O,O,O,G,G,G,G,G,G,G,G] rfl rfl (any_of HT_.out (by kernel_rfl)) (fun _ _ _ h=>h) (Or.inl ⟨by rfl,?_⟩) ?_ ?_ ?_
   rotate_left;(intro w';go_simp;with_reducible rfl);rotate_left;(simp only [Act.put,zp];rfl)
   refine zq 8 (some 94) ?_ #[O,O,O,O,O,O,O,O,O,G,G,G,G,G,G,G] rfl rfl (any_of HT_.out (by kernel_rfl)) (fun _ _ _ h=>h) (Or.inl ⟨by rfl,?_⟩) ?_ ?_ ?_
   rotate_left;(intro w';go_simp;with_reducible rfl);rotate_left;(simp only [Act.put,zp];rfl)
   refine zq 9 (some 95) ?_ #[O,O,O,O,O,O,O,O,O,O,G,G,G,G,G,G] rfl rfl (any_of HT_.out (by kernel_rfl)) (fun _ _ _ h=>h) (Or.inl ⟨by rfl,?_⟩) ?_ ?_ ?_
   rotate_left;(intro w';go_simp;with_reducible rfl);rotate_left;(simp only [Act.put,zp];rfl)
   refine zq 13 (some 99) ?_ #[O,O,O,O,O,O,O,O,O,O,G,G,G,O,G,G] rfl rfl (any_of HT_.out (by kernel_rfl)) (fun _ _ _ h=>h) (Or.inl ⟨by rfl,?_⟩) ?_ ?_ ?_
   rotate_left;(intro w';go_simp;with_reducible rfl);rotate_left;(simp only [Act.put,zp];rfl)
   refine one_ (i:=10) (N:=(some 96)) #[O,O,O,O,O,O,O,O,O,O,O,G,G,O,G,G] rfl rfl (one_of HT_.out (by kernel_rfl)) (by decide) (fun K hK=>?_)
   refine goes_ Tryd.func102 (by kernel_rfl) rfl #[.int .u8 (Go.bits .xor .u8 d a)] (by rfl) rfl rfl (by (try simp only [zm]); first|done|rfl) ?_
   refine (aes_twice.calls _ _ _ (tw_some (Go.bits .xor .u8 d a))).mono ?_
   rintro e w2 ⟨rfl,m,rfl⟩
   refine ⟨_,rfl,?_⟩
   refine hK.out _ _ HX3.out (fun hHeld=>?_)
   clear hK K
   refine norm_ (a':=?_) ?_ ?_
   rotate_left
   ·show Act.put _ (some 96) _=_
    simp only [Act.put,zp]
    rfl
   refine zq 11 (some 97) ?_ #[O,O,O,O,O,O,O,O,O,O,O,O,G,O,G,G] rfl rfl (any_of HT_.out (by kernel_rfl)) (fun _ _ _ h=>h) (Or.inl ⟨by rfl,?_⟩) ?_ ?_ ?_
   rotate_left;(intro w';go_simp;with_reducible rfl);rotate_left;(simp only [Act.put,zp];rfl)
   refine zq 12 (some 98) ?_ #[O,O,O,O,O,O,O,O,O,O,O,O,O,O,G,G] rfl rfl (any_of HT_.out (by kernel_rfl)) (fun _ _ _ h=>h) (Or.inl ⟨by rfl,?_⟩) ?_ ?_ ?_
   rotate_left;(intro w';go_simp;with_reducible rfl);rotate_left;(simp only [Act.put,zp];rfl)
   refine zq 14 (some 100) ?_ #[O,O,O,O,O,O,O,O,O,O,O,O,O,O,O,G] rfl rfl (any_of HT_.out (by kernel_rfl)) (fun _ _ _ h=>h) (Or.inl ⟨by rfl,?_⟩) ?_ ?_ ?_
   rotate_left;(intro w';go_simp;with_reducible rfl);rotate_left;(simp only [Act.put,zp];rfl)
   refine last_ (i:=15) (N:=none) #[O,O,O,O,O,O,O,O,O,O,O,O,O,O,O,O] rfl rfl (one_of HT_.out (by kernel_rfl)) (by decide) (fun K hK=>?_)
   refine skip_ (w1:=?_) (by rfl) rfl ?_ ?_
   rotate_left
   ·go_simp
    rfl
   refine hK.out _ _ ?_
   clear hK K
   refine done_ (done_of HT_.out (by kernel_rfl)) ?_
   clear hc3 hf3
   try go_wp2
   go_roundw
   case rel =>
    refine ⟨1+1,by omega,by first|rfl|go_num,⟨?_⟩,⟨?_⟩⟩
    ·refine (AK_store (w:=W3.drewN _) HX3.out 7 _).trans ?_
     have e:mxS s (1+1)=mx4 L 4 a b c d (x8 (x8 (x8 a b) c) d):=by rw [Ha.out,Hb.out,Hc.out,Hd.out,HLe.out]; rfl
     rw [e,hL3,hL2,hL1]; rfl
    ·exact grown_set (grown_drewN HW3.out _) _ _
   case measure=>simp [intOf]
  ·have HL:Aside0 ((mxS s 2).length=16):=⟨by rw [mxS_len,HS.out]⟩
   obtain ⟨L,hL⟩:∃ L,L=mxS s 2:=⟨_,rfl⟩
   rw [← hL] at HX HL
   have HLe:=zK hL
   clear hL
   have c0:=AK_cell HX.out 8 (by rw [HL.out]; decide)
   obtain ⟨a,ha⟩:∃ x,x=L.getD 8 0:=⟨_,rfl⟩
   rw [← ha] at c0
   have Ha:=zK ha
   clear ha
   have c1:=AK_cell HX.out 9 (by rw [HL.out]; decide)
   obtain ⟨b,hb⟩:∃ x,x=L.getD 9 0:=⟨_,rfl⟩
   rw [← hb] at c1
   have Hb:=zK hb
   clear hb
   have c2:=AK_cell HX.out 10 (by rw [HL.out]; decide)
   obtain ⟨c,hc⟩:∃ x,x=L.getD 10 0:=⟨_,rfl⟩
   rw [← hc] at c2
   have Hc:=zK hc
   clear hc
   have c3:=AK_cell HX.out 11 (by rw [HL.out]; decide)
   obtain ⟨d,hd⟩:∃ x,x=L.getD 11 0:=⟨_,rfl⟩
   rw [← hd] at c3
   have Hd:=zK hd
   clear hd
   have e8_:IntKind.i64.wrap 8=8:=rfl
   have e9_:IntKind.i64.wrap 9=9:=rfl
   have e10_:IntKind.i64.wrap 10=10:=rfl
   have e11_:IntKind.i64.wrap 11=11:=rfl
   have e12_:IntKind.i64.wrap 12=12:=rfl
   go_wp2_with fail
   go_quiet (fail)
   go_wp2_with fail
   clear c0 c1 c2 c3
   refine code_at (fun W=>W.heap[g]? = some (.cells (AK .u8 L) 101 (0,0))∧w.grownBy W (some g)) ⟨?_,?_⟩ ?_
   ·exact HX.out
   ·exact grown_drewN HW.out _
   intro W0 hW0
   have HX0:=zK hW0.1
   have HW0:=zK hW0.2
   clear hW0
   have HL0_:Aside0 (L.length=16):=⟨by exact HL.out⟩
   have HV0:Aside0 (L.getD 8 0=a):=⟨by exact Ha.out.symm⟩
   have hc0:=(AK_cell HX0.out 8 (by rw [HL0_.out]; decide)).trans (by rw [HV0.out])
   have hf0:=frozen_of_row W0 g 8 _ _ HX0.out
   refine start_ (n:=15) (S:=fun w'=>w'.heap[g]? = some (.cells (AK .u8 L) 101 (0,0))) (ds:=[14]) #[G,G,G,G,G,G,G,G,G,G,G,G,G,G,G] (by kernel_rfl) rfl rfl HX0.out (fun hHeld=>?_)
   refine with_tab (T:=rtab .any (opsOf Tryd.f100 5)) (by kernel_rfl) (fun HT_=>?_)
   refine zq 0 (some 42) ?_ #[O,G,G,G,G,G,G,G,G,G,G,G,G,G,G] rfl rfl (any_of HT_.out (by kernel_rfl)) (fun _ _ _ h=>h) (Or.inl ⟨by rfl,?_⟩) ?_ ?_ ?_
   rotate_left;(intro w';go_simp;with_reducible rfl);rotate_left;(simp only [Act.put,zp];rfl)
   refine zq 1 (some 43) ?_ #[O,O,G,G,G,G,G,G,G,G,G,G,G,G,G] rfl rfl (any_of HT_.out (by kernel_rfl)) (fun _ _ _ h=>h) (Or.inl ⟨by rfl,?_⟩) ?_ ?_ ?_
   rotate_left;(intro w';go_simp;with_reducible rfl);rotate_left;(simp only [Act.put,zp];rfl)
   refine zq 2 (some 44) ?_ #[O,O,O,G,G,G,G,G,G,G,G,G,G,G,G] rfl rfl (any_of HT_.out (by kernel_rfl)) (fun _ _ _ h=>h) (Or.inl ⟨by rfl,?_⟩) ?_ ?_ ?_
   rotate_left;(intro w';go_simp;with_reducible rfl);rotate_left;(simp only [Act.put,zp];rfl)
   refine zq 3 (some 45) ?_ #[O,O,O,O,G,G,G,G,G,G,G,G,G,G,G] rfl rfl (any_of HT_.out (by kernel_rfl)) (fun _ _ _ h=>h) (Or.inl ⟨by rfl,?_⟩) ?_ ?_ ?_
   rotate_left;(intro w';go_simp;with_reducible rfl);rotate_left;(simp only [Act.put,zp];rfl)
   refine take_ (i:=4) (N:=(some 46)) (v:=?_) (a':=?_) #[O,O,O,O,O,G,G,G,G,G,G,G,G,G,G] rfl rfl (take_of HT_.out (by kernel_rfl)) (fun _ _ _ h=>h) (Or.inl ⟨by rfl,?_⟩) hHeld ?_ ?_
   rotate_left
   ·intro w' hs'
    have hcl:=(AK_cell hs' 8 (by rw [HL0_.out]; decide)).trans (by rw [HV0.out])
    go_simp
    with_reducible rfl
   rotate_left
   ·simp only [Act.put,zp]
    rfl
   refine zq 5 (some 47) ?_ #[O,O,O,O,O,O,G,G,G,G,G,G,G,G,G] rfl rfl (any_of HT_.out (by kernel_rfl)) (fun _ _ _ h=>h) (Or.inl ⟨by rfl,?_⟩) ?_ ?_ ?_
   rotate_left;(intro w';go_simp;with_reducible rfl);rotate_left;(simp only [Act.put,zp];rfl)
   refine zq 6 (some 48) ?_ #[O,O,O,O,O,O,O,G,G,G,G,G,G,G,G] rfl rfl (any_of HT_.out (by kernel_rfl)) (fun _ _ _ h=>h) (Or.inl ⟨by rfl,?_⟩) ?_ ?_ ?_
   rotate_left;(intro w';go_simp;with_reducible rfl);rotate_left;(simp only [Act.put,zp];rfl)
   refine zq 7 (some 49) ?_ #[O,O,O,O,O,O,O,O,G,G,G,G,G,G,G] rfl rfl (any_of HT_.out (by kernel_rfl)) (fun _ _ _ h=>h) (Or.inl ⟨by rfl,?_⟩) ?_ ?_ ?_
   rotate_left;(intro w';go_simp;with_reducible rfl);rotate_left;(simp only [Act.put,zp];rfl)
   refine zq 8 (some 50) ?_ #[O,O,O,O,O,O,O,O,O,G,G,G,G,G,G] rfl rfl (any_of HT_.out (by kernel_rfl)) (fun _ _ _ h=>h) (Or.inl ⟨by rfl,?_⟩) ?_ ?_ ?_
   rotate_left;(intro w';go_simp;with_reducible rfl);rotate_left;(simp only [Act.put,zp];rfl)
   refine zq 12 (some 54) ?_ #[O,O,O,O,O,O,O,O,O,G,G,G,O,G,G] rfl rfl (any_of HT_.out (by kernel_rfl)) (fun _ _ _ h=>h) (Or.inl ⟨by rfl,?_⟩) ?_ ?_ ?_
   rotate_left;(intro w';go_simp;with_reducible rfl);rotate_left;(simp only [Act.put,zp];rfl)
   refine one_ (i:=9) (N:=(some 51)) #[O,O,O,O,O,O,O,O,O,O,G,G,O,G,G] rfl rfl (one_of HT_.out (by kernel_rfl)) (by decide) (fun K hK=>?_)
   refine goes_ Tryd.func102 (by kernel_rfl) rfl #[.int .u8 (Go.bits .xor .u8 a b)] (by rfl) rfl rfl (by (try simp only [zm]); first|done|rfl) ?_
   refine (aes_twice.calls _ _ _ (tw_some (Go.bits .xor .u8 a b))).mono ?_
   rintro e w2 ⟨rfl,m,rfl⟩
   refine ⟨_,rfl,?_⟩
   refine hK.out _ _ HX0.out (fun hHeld=>?_)
   clear hK K
   refine norm_ (a':=?_) ?_ ?_
   rotate_left
   ·show Act.put _ (some 51) _=_
    simp only [Act.put,zp]
    rfl
   refine zq 10 (some 52) ?_ #[O,O,O,O,O,O,O,O,O,O,O,G,O,G,G] rfl rfl (any_of HT_.out (by kernel_rfl)) (fun _ _ _ h=>h) (Or.inl ⟨by rfl,?_⟩) ?_ ?_ ?_
   rotate_left;(intro w';go_simp;with_reducible rfl);rotate_left;(simp only [Act.put,zp];rfl)
   refine zq 11 (some 53) ?_ #[O,O,O,O,O,O,O,O,O,O,O,O,O,G,G] rfl rfl (any_of HT_.out (by kernel_rfl)) (fun _ _ _ h=>h) (Or.inl ⟨by rfl,?_⟩) ?_ ?_ ?_
   rotate_left;(intro w';go_simp;with_reducible rfl);rotate_left;(simp only [Act.put,zp];rfl)
   refine zq 13 (some 55) ?_ #[O,O,O,O,O,O,O,O,O,O,O,O,O,O,G] rfl rfl (any_of HT_.out (by kernel_rfl)) (fun _ _ _ h=>h) (Or.inl ⟨by rfl,?_⟩) ?_ ?_ ?_
   rotate_left;(intro w';go_simp;with_reducible rfl);rotate_left;(simp only [Act.put,zp];rfl)
   refine last_ (i:=14) (N:=none) #[O,O,O,O,O,O,O,O,O,O,O,O,O,O,O] rfl rfl (one_of HT_.out (by kernel_rfl)) (by decide) (fun K hK=>?_)
   refine skip_ (w1:=?_) (by rfl) rfl ?_ ?_
   rotate_left
   ·go_simp
    rfl
   refine hK.out _ _ ?_
   clear hK K
   refine done_ (done_of HT_.out (by kernel_rfl)) ?_
   clear hc0 hf0
   obtain ⟨L1,hL1⟩:∃ x,x=L.set 8 (Go.bits .xor .u8 a (Go.bits .xor .u8 (Go.bits .xor .u8 (Go.bits .xor .u8 (Go.bits .xor .u8 a b) c) d) (tw (Go.bits .xor .u8 a b)))):=⟨_,rfl⟩
   try go_wp2_with fail
   refine code_at (fun W=>W.heap[g]? = some (.cells (AK .u8 L1) 101 (0,0))∧w.grownBy W (some g)) ⟨?_,?_⟩ ?_
   ·exact (AK_store (w:=W0.drewN _) HX0.out 8 _).trans (by rw [hL1])
   ·exact grown_set (grown_drewN HW0.out _) _ _
   intro W1 hW1
   have HX1:=zK hW1.1
   have HW1:=zK hW1.2
   clear hW1
   have HL1_:Aside0 (L1.length=16):=⟨by rw [hL1,List.length_set]; exact HL0_.out⟩
   have HV1:Aside0 (L1.getD 9 0=b):=⟨by rw [hL1,getD_set_ne _ _ _ _ (by decide)]; exact Hb.out.symm⟩
   have hc1:=(AK_cell HX1.out 9 (by rw [HL1_.out]; decide)).trans (by rw [HV1.out])
   have hf1:=frozen_of_row W1 g 9 _ _ HX1.out
   refine start_ (n:=16) (S:=fun w'=>w'.heap[g]? = some (.cells (AK .u8 L1) 101 (0,0))) (ds:=[15]) #[G,G,G,G,G,G,G,G,G,G,G,G,G,G,G,G] (by kernel_rfl) rfl rfl HX1.out (fun hHeld=>?_)
   refine with_tab (T:=rtab .any (opsOf Tryd.f100 6)) (by kernel_rfl) (fun HT_=>?_)
   refine zq 0 (some 56) ?_ #[O,G,G,G,G,G,G,G,G,G,G,G,G,G,G,G] rfl rfl (any_of HT_.out (by kernel_rfl)) (fun _ _ _ h=>h) (Or.inl ⟨by rfl,?_⟩) ?_ ?_ ?_
   rotate_left;(intro w';go_simp;with_reducible rfl);rotate_left;(simp only [Act.put,zp];rfl)
   refine zq 1 (some 57) ?_ #[O,O,G,G,G,G,G,G,G,G,G,G,G,G,G,G] rfl rfl (any_of HT_.out (by kernel_rfl)) (fun _ _ _ h=>h) (Or.inl ⟨by rfl,?_⟩) ?_ ?_ ?_
   rotate_left;(intro w';go_simp;with_reducible rfl);rotate_left;(simp only [Act.put,zp];rfl)
   refine zq 2 (some 58) ?_ #[O,O,O,G,G,G,G,G,G,G,G,G,G,G,G,G] rfl rfl (any_of HT_.out (by kernel_rfl)) (fun _ _ _ h=>h) (Or.inl ⟨by rfl,?_⟩) ?_ ?_ ?_
   rotate_left;(intro w';go_simp;with_reducible rfl);rotate_left;(simp only [Act.put,zp];rfl)
   refine zq 3 (some 59) ?_ #[O,O,O,O,G,G,G,G,G,G,G,G,G,G,G,G] rfl rfl (any_of HT_.out (by kernel_rfl)) (fun _ _ _ h=>h) (Or.inl ⟨by rfl,?_⟩) ?_ ?_ ?_
   rotate_left;(intro w';go_simp;with_reducible rfl);rotate_left;(simp only [Act.put,zp];rfl)
   refine zq 4 (some 60) ?_ #[O,O,O,O,O,G,G,G,G,G,G,G,G,G,G,G] rfl rfl (any_of HT_.out (by kernel_rfl)) (fun _ _ _ h=>h) (Or.inl ⟨by rfl,?_⟩) ?_ ?_ ?_
   rotate_left;(intro w';go_simp;with_reducible rfl);rotate_left;(simp only [Act.put,zp];rfl)
   refine take_ (i:=5) (N:=(some 61)) (v:=?_) (a':=?_) #[O,O,O,O,O,O,G,G,G,G,G,G,G,G,G,G] rfl rfl (take_of HT_.out (by kernel_rfl)) (fun _ _ _ h=>h) (Or.inl ⟨by rfl,?_⟩) hHeld ?_ ?_
   rotate_left
   ·intro w' hs'
    have hcl:=(AK_cell hs' 9 (by rw [HL1_.out]; decide)).trans (by rw [HV1.out])
    go_simp
    with_reducible rfl
   rotate_left
   ·simp only [Act.put,zp]
    rfl
   refine zq 6 (some 62) ?_ #[O,O,O,O,O,O,O,G,G,G,G,G,G,G,G,G] rfl rfl (any_of HT_.out (by kernel_rfl)) (fun _ _ _ h=>h) (Or.inl ⟨by rfl,?_⟩) ?_ ?_ ?_
   rotate_left;(intro w';go_simp;with_reducible rfl);rotate_left;(simp only [Act.put,zp];rfl)
   refine zq 7 (some 63) ?_ #[O,O,O,O,O,O,O,O,G,G,G,G,G,G,G,G] rfl rfl (any_of HT_.out (by kernel_rfl)) (fun _ _ _ h=>h) (Or.inl ⟨by rfl,?_⟩) ?_ ?_ ?_
   rotate_left;(intro w';go_simp;with_reducible rfl);rotate_left;(simp only [Act.put,zp];rfl)
   refine zq 8 (some 64) ?_ #[O,O,O,O,O,O,O,O,O,G,G,G,G,G,G,G] rfl rfl (any_of HT_.out (by kernel_rfl)) (fun _ _ _ h=>h) (Or.inl ⟨by rfl,?_⟩) ?_ ?_ ?_
   rotate_left;(intro w';go_simp;with_reducible rfl);rotate_left;(simp only [Act.put,zp];rfl)
   refine zq 9 (some 65) ?_ #[O,O,O,O,O,O,O,O,O,O,G,G,G,G,G,G] rfl rfl (any_of HT_.out (by kernel_rfl)) (fun _ _ _ h=>h) (Or.inl ⟨by rfl,?_⟩) ?_ ?_ ?_
   rotate_left;(intro w';go_simp;with_reducible rfl);rotate_left;(simp only [Act.put,zp];rfl)
   refine zq 13 (some 69) ?_ #[O,O,O,O,O,O,O,O,O,O,G,G,G,O,G,G] rfl rfl (any_of HT_.out (by kernel_rfl)) (fun _ _ _ h=>h) (Or.inl ⟨by rfl,?_⟩) ?_ ?_ ?_
   rotate_left;(intro w';go_simp;with_reducible rfl);rotate_left;(simp only [Act.put,zp];rfl)
   refine one_ (i:=10) (N:=(some 66)) #[O,O,O,O,O,O,O,O,O,O,O,G,G,O,G,G] rfl rfl (one_of HT_.out (by kernel_rfl)) (by decide) (fun K hK=>?_)
   refine goes_ Tryd.func102 (by kernel_rfl) rfl #[.int .u8 (Go.bits .xor .u8 b c)] (by rfl) rfl rfl (by (try simp only [zm]); first|done|rfl) ?_
   refine (aes_twice.calls _ _ _ (tw_some (Go.bits .xor .u8 b c))).mono ?_
   rintro e w2 ⟨rfl,m,rfl⟩
   refine ⟨_,rfl,?_⟩
   refine hK.out _ _ HX1.out (fun hHeld=>?_)
   clear hK K
   refine norm_ (a':=?_) ?_ ?_
   rotate_left
   ·show Act.put _ (some 66) _=_
    simp only [Act.put,zp]
    rfl
   refine zq 11 (some 67) ?_ #[O,O,O,O,O,O,O,O,O,O,O,O,G,O,G,G] rfl rfl (any_of HT_.out (by kernel_rfl)) (fun _ _ _ h=>h) (Or.inl ⟨by rfl,?_⟩) ?_ ?_ ?_
   rotate_left;(intro w';go_simp;with_reducible rfl);rotate_left;(simp only [Act.put,zp];rfl)
   refine zq 12 (some 68) ?_ #[O,O,O,O,O,O,O,O,O,O,O,O,O,O,G,G] rfl rfl (any_of HT_.out (by kernel_rfl)) (fun _ _ _ h=>h) (Or.inl ⟨by rfl,?_⟩) ?_ ?_ ?_
   rotate_left;(intro w';go_simp;with_reducible rfl);rotate_left;(simp only [Act.put,zp];rfl)
   refine zq 14 (some 70) ?_ #[O,O,O,O,O,O,O,O,O,O,O,O,O,O,O,G] rfl rfl (any_of HT_.out (by kernel_rfl)) (fun _ _ _ h=>h) (Or.inl ⟨by rfl,?_⟩) ?_ ?_ ?_
   rotate_left;(intro w';go_simp;with_reducible rfl);rotate_left;(simp only [Act.put,zp];rfl)
   refine last_ (i:=15) (N:=none) #[O,O,O,O,O,O,O,O,O,O,O,O,O,O,O,O] rfl rfl (one_of HT_.out (by kernel_rfl)) (by decide) (fun K hK=>?_)
   refine skip_ (w1:=?_) (by rfl) rfl ?_ ?_
   rotate_left
   ·go_simp
    rfl
   refine hK.out _ _ ?_
   clear hK K
   refine done_ (done_of HT_.out (by kernel_rfl)) ?_
   clear hc1 hf1
   obtain ⟨L2,hL2⟩:∃ x,x=L1.set 9 (Go.bits .xor .u8 b (Go.bits .xor .u8 (Go.bits .xor .u8 (Go.bits .xor .u8 (Go.bits .xor .u8 a b) c) d) (tw (Go.bits .xor .u8 b c)))):=⟨_,rfl⟩
   try go_wp2_with fail
   refine code_at (fun W=>W.heap[g]? = some (.cells (AK .u8 L2) 101 (0,0))∧w.grownBy W (some g)) ⟨?_,?_⟩ ?_
   ·exact (AK_store (w:=W1.drewN _) HX1.out 9 _).trans (by rw [hL2])
   ·exact grown_set (grown_drewN HW1.out _) _ _
   intro W2 hW2
   have HX2:=zK hW2.1
   have HW2:=zK hW2.2
   clear hW2
   have HL2_:Aside0 (L2.length=16):=⟨by rw [hL2,List.length_set]; exact HL1_.out⟩
   have HV2:Aside0 (L2.getD 10 0=c):=⟨by rw [hL2,getD_set_ne _ _ _ _ (by decide)]; rw [hL1,getD_set_ne _ _ _ _ (by decide)]; exact Hc.out.symm⟩
   have hc2:=(AK_cell HX2.out 10 (by rw [HL2_.out]; decide)).trans (by rw [HV2.out])
   have hf2:=frozen_of_row W2 g 10 _ _ HX2.out
   refine start_ (n:=16) (S:=fun w'=>w'.heap[g]? = some (.cells (AK .u8 L2) 101 (0,0))) (ds:=[15]) #[G,G,G,G,G,G,G,G,G,G,G,G,G,G,G,G] (by kernel_rfl) rfl rfl HX2.out (fun hHeld=>?_)
   refine with_tab (T:=rtab .any (opsOf Tryd.f100 7)) (by kernel_rfl) (fun HT_=>?_)
   refine zq 0 (some 71) ?_ #[O,G,G,G,G,G,G,G,G,G,G,G,G,G,G,G] rfl rfl (any_of HT_.out (by kernel_rfl)) (fun _ _ _ h=>h) (Or.inl ⟨by rfl,?_⟩) ?_ ?_ ?_
   rotate_left;(intro w';go_simp;with_reducible rfl);rotate_left;(simp only [Act.put,zp];rfl)
   refine zq 1 (some 72) ?_ #[O,O,G,G,G,G,G,G,G,G,G,G,G,G,G,G] rfl rfl (any_of HT_.out (by kernel_rfl)) (fun _ _ _ h=>h) (Or.inl ⟨by rfl,?_⟩) ?_ ?_ ?_
   rotate_left;(intro w';go_simp;with_reducible rfl);rotate_left;(simp only [Act.put,zp];rfl)
   refine zq 2 (some 73) ?_ #[O,O,O,G,G,G,G,G,G,G,G,G,G,G,G,G] rfl rfl (any_of HT_.out (by kernel_rfl)) (fun _ _ _ h=>h) (Or.inl ⟨by rfl,?_⟩) ?_ ?_ ?_
   rotate_left;(intro w';go_simp;with_reducible rfl);rotate_left;(simp only [Act.put,zp];rfl)
   refine zq 3 (some 74) ?_ #[O,O,O,O,G,G,G,G,G,G,G,G,G,G,G,G] rfl rfl (any_of HT_.out (by kernel_rfl)) (fun _ _ _ h=>h) (Or.inl ⟨by rfl,?_⟩) ?_ ?_ ?_
   rotate_left;(intro w';go_simp;with_reducible rfl);rotate_left;(simp only [Act.put,zp];rfl)
   refine zq 4 (some 75) ?_ #[O,O,O,O,O,G,G,G,G,G,G,G,G,G,G,G] rfl rfl (any_of HT_.out (by kernel_rfl)) (fun _ _ _ h=>h) (Or.inl ⟨by rfl,?_⟩) ?_ ?_ ?_
   rotate_left;(intro w';go_simp;with_reducible rfl);rotate_left;(simp only [Act.put,zp];rfl)
   refine take_ (i:=5) (N:=(some 76)) (v:=?_) (a':=?_) #[O,O,O,O,O,O,G,G,G,G,G,G,G,G,G,G] rfl rfl (take_of HT_.out (by kernel_rfl)) (fun _ _ _ h=>h) (Or.inl ⟨by rfl,?_⟩) hHeld ?_ ?_
   rotate_left
   ·intro w' hs'
    have hcl:=(AK_cell hs' 10 (by rw [HL2_.out]; decide)).trans (by rw [HV2.out])
    go_simp
    with_reducible rfl
   rotate_left
   ·simp only [Act.put,zp]
    rfl
   refine zq 6 (some 77) ?_ #[O,O,O,O,O,O,O,G,G,G,G,G,G,G,G,G] rfl rfl (any_of HT_.out (by kernel_rfl)) (fun _ _ _ h=>h) (Or.inl ⟨by rfl,?_⟩) ?_ ?_ ?_
   rotate_left;(intro w';go_simp;with_reducible rfl);rotate_left;(simp only [Act.put,zp];rfl)
   refine zq 7 (some 78) ?_ #[O,O,O,O,O,O,O,O,G,G,G,G,G,G,G,G] rfl rfl (any_of HT_.out (by kernel_rfl)) (fun _ _ _ h=>h) (Or.inl ⟨by rfl,?_⟩) ?_ ?_ ?_
   rotate_left;(intro w';go_simp;with_reducible rfl);rotate_left;(simp only [Act.put,zp];rfl)
   refine zq 8 (some 79) ?_ #[O,O,O,O,O,O,O,O,O,G,G,G,G,G,G,G] rfl rfl (any_of HT_.out (by kernel_rfl)) (fun _ _ _ h=>h) (Or.inl ⟨by rfl,?_⟩) ?_ ?_ ?_
   rotate_left;(intro w';go_simp;with_reducible rfl);rotate_left;(simp only [Act.put,zp];rfl)
   refine zq 9 (some 80) ?_ #[O,O,O,O,O,O,O,O,O,O,G,G,G,G,G,G] rfl rfl (any_of HT_.out (by kernel_rfl)) (fun _ _ _ h=>h) (Or.inl ⟨by rfl,?_⟩) ?_ ?_ ?_
   rotate_left;(intro w';go_simp;with_reducible rfl);rotate_left;(simp only [Act.put,zp];rfl)
   refine zq 13 (some 84) ?_ #[O,O,O,O,O,O,O,O,O,O,G,G,G,O,G,G] rfl rfl (any_of HT_.out (by kernel_rfl)) (fun _ _ _ h=>h) (Or.inl ⟨by rfl,?_⟩) ?_ ?_ ?_
   rotate_left;(intro w';go_simp;with_reducible rfl);rotate_left;(simp only [Act.put,zp];rfl)
   refine one_ (i:=10) (N:=(some 81)) #[O,O,O,O,O,O,O,O,O,O,O,G,G,O,G,G] rfl rfl (one_of HT_.out (by kernel_rfl)) (by decide) (fun K hK=>?_)
   refine goes_ Tryd.func102 (by kernel_rfl) rfl #[.int .u8 (Go.bits .xor .u8 c d)] (by rfl) rfl rfl (by (try simp only [zm]); first|done|rfl) ?_
   refine (aes_twice.calls _ _ _ (tw_some (Go.bits .xor .u8 c d))).mono ?_
   rintro e w2 ⟨rfl,m,rfl⟩
   refine ⟨_,rfl,?_⟩
   refine hK.out _ _ HX2.out (fun hHeld=>?_)
   clear hK K
   refine norm_ (a':=?_) ?_ ?_
   rotate_left
   ·show Act.put _ (some 81) _=_
    simp only [Act.put,zp]
    rfl
   refine zq 11 (some 82) ?_ #[O,O,O,O,O,O,O,O,O,O,O,O,G,O,G,G] rfl rfl (any_of HT_.out (by kernel_rfl)) (fun _ _ _ h=>h) (Or.inl ⟨by rfl,?_⟩) ?_ ?_ ?_
   rotate_left;(intro w';go_simp;with_reducible rfl);rotate_left;(simp only [Act.put,zp];rfl)
   refine zq 12 (some 83) ?_ #[O,O,O,O,O,O,O,O,O,O,O,O,O,O,G,G] rfl rfl (any_of HT_.out (by kernel_rfl)) (fun _ _ _ h=>h) (Or.inl ⟨by rfl,?_⟩) ?_ ?_ ?_
   rotate_left;(intro w';go_simp;with_reducible rfl);rotate_left;(simp only [Act.put,zp];rfl)
   refine zq 14 (some 85) ?_ #[O,O,O,O,O,O,O,O,O,O,O,O,O,O,O,G] rfl rfl (any_of HT_.out (by kernel_rfl)) (fun _ _ _ h=>h) (Or.inl ⟨by rfl,?_⟩) ?_ ?_ ?_
   rotate_left;(intro w';go_simp;with_reducible rfl);rotate_left;(simp only [Act.put,zp];rfl)
   refine last_ (i:=15) (N:=none) #[O,O,O,O,O,O,O,O,O,O,O,O,O,O,O,O] rfl rfl (one_of HT_.out (by kernel_rfl)) (by decide) (fun K hK=>?_)
   refine skip_ (w1:=?_) (by rfl) rfl ?_ ?_
   rotate_left
   ·go_simp
    rfl
   refine hK.out _ _ ?_
   clear hK K
   refine done_ (done_of HT_.out (by kernel_rfl)) ?_
   clear hc2 hf2
   obtain ⟨L3,hL3⟩:∃ x,x=L2.set 10 (Go.bits .xor .u8 c (Go.bits .xor .u8 (Go.bits .xor .u8 (Go.bits .xor .u8 (Go.bits .xor .u8 a b) c) d) (tw (Go.bits .xor .u8 c d)))):=⟨_,rfl⟩
   try go_wp2_with fail
   refine code_at (fun W=>W.heap[g]? = some (.cells (AK .u8 L3) 101 (0,0))∧w.grownBy W (some g)) ⟨?_,?_⟩ ?_
   ·exact (AK_store (w:=W2.drewN _) HX2.out 10 _).trans (by rw [hL3])
   ·exact grown_set (grown_drewN HW2.out _) _ _
   intro W3 hW3
   have HX3:=zK hW3.1
   have HW3:=zK hW3.2
   clear hW3
   have HL3_:Aside0 (L3.length=16):=⟨by rw [hL3,List.length_set]; exact HL2_.out⟩
   have HV3:Aside0 (L3.getD 11 0=d):=⟨by rw [hL3,getD_set_ne _ _ _ _ (by decide)]; rw [hL2,getD_set_ne _ _ _ _ (by decide)]; rw [hL1,getD_set_ne _ _ _ _ (by decide)]; exact Hd.out.symm⟩
   have hc3:=(AK_cell HX3.out 11 (by rw [HL3_.out]; decide)).trans (by rw [HV3.out])
   have hf3:=frozen_of_row W3 g 11 _ _ HX3.out
   refine start_ (n:=16) (S:=fun w'=>w'.heap[g]? = some (.cells (AK .u8 L3) 101 (0,0))) (ds:=[15]) #[G,G,G,G,G,G,G,G,G,G,G,G,G,G,G,G] (by kernel_rfl) rfl rfl HX3.out (fun hHeld=>?_)
   refine with_tab (T:=rtab .any (opsOf Tryd.f100 8)) (by kernel_rfl) (fun HT_=>?_)
   refine zq 0 (some 86) ?_ #[O,G,G,G,G,G,G,G,G,G,G,G,G,G,G,G] rfl rfl (any_of HT_.out (by kernel_rfl)) (fun _ _ _ h=>h) (Or.inl ⟨by rfl,?_⟩) ?_ ?_ ?_
   rotate_left;(intro w';go_simp;with_reducible rfl);rotate_left;(simp only [Act.put,zp];rfl)
   refine zq 1 (some 87) ?_ #[O,O,G,G,G,G,G,G,G,G,G,G,G,G,G,G] rfl rfl (any_of HT_.out (by kernel_rfl)) (fun _ _ _ h=>h) (Or.inl ⟨by rfl,?_⟩) ?_ ?_ ?_
   rotate_left;(intro w';go_simp;with_reducible rfl);rotate_left;(simp only [Act.put,zp];rfl)
   refine zq 2 (some 88) ?_ #[O,O,O,G,G,G,G,G,G,G,G,G,G,G,G,G] rfl rfl (any_of HT_.out (by kernel_rfl)) (fun _ _ _ h=>h) (Or.inl ⟨by rfl,?_⟩) ?_ ?_ ?_
   rotate_left;(intro w';go_simp;with_reducible rfl);rotate_left;(simp only [Act.put,zp];rfl)
   refine zq 3 (some 89) ?_ #[O,O,O,O,G,G,G,G,G,G,G,G,G,G,G,G] rfl rfl (any_of HT_.out (by kernel_rfl)) (fun _ _ _ h=>h) (Or.inl ⟨by rfl,?_⟩) ?_ ?_ ?_
   rotate_left;(intro w';go_simp;with_reducible rfl);rotate_left;(simp only [Act.put,zp];rfl)
   refine zq 4 (some 90) ?_ #[O,O,O,O,O,G,G,G,G,G,G,G,G,G,G,G] rfl rfl (any_of HT_.out (by kernel_rfl)) (fun _ _ _ h=>h) (Or.inl ⟨by rfl,?_⟩) ?_ ?_ ?_
   rotate_left;(intro w';go_simp;with_reducible rfl);rotate_left;(simp only [Act.put,zp];rfl)
   refine take_ (i:=5) (N:=(some 91)) (v:=?_) (a':=?_) #[O,O,O,O,O,O,G,G,G,G,G,G,G,G,G,G] rfl rfl (take_of HT_.out (by kernel_rfl)) (fun _ _ _ h=>h) (Or.inl ⟨by rfl,?_⟩) hHeld ?_ ?_
   rotate_left
   ·intro w' hs'
    have hcl:=(AK_cell hs' 11 (by rw [HL3_.out]; decide)).trans (by rw [HV3.out])
    go_simp
    with_reducible rfl
   rotate_left
   ·simp only [Act.put,zp]
    rfl
   refine zq 6 (some 92) ?_ #[O,O,O,O,O,O,O,G,G,G,G,G,G,G,G,G] rfl rfl (any_of HT_.out (by kernel_rfl)) (fun _ _ _ h=>h) (Or.inl ⟨by rfl,?_⟩) ?_ ?_ ?_
   rotate_left;(intro w';go_simp;with_reducible rfl);rotate_left;(simp only [Act.put,zp];rfl)
   refine zq 7 (some 93) ?_ #[O,O,O,O,O,O,O,O,G,G,G,G,G,G,G,G] rfl rfl (any_of HT_.out (by kernel_rfl)) (fun _ _ _ h=>h) (Or.inl ⟨by rfl,?_⟩) ?_ ?_ ?_
   rotate_left;(intro w';go_simp;with_reducible rfl);rotate_left;(simp only [Act.put,zp];rfl)
   refine zq 8 (some 94) ?_ #[O,O,O,O,O,O,O,O,O,G,G,G,G,G,G,G] rfl rfl (any_of HT_.out (by kernel_rfl)) (fun _ _ _ h=>h) (Or.inl ⟨by rfl,?_⟩) ?_ ?_ ?_
   rotate_left;(intro w';go_simp;with_reducible rfl);rotate_left;(simp only [Act.put,zp];rfl)
   refine zq 9 (some 95) ?_ #[O,O,O,O,O,O,O,O,O,O,G,G,G,G,G,G] rfl rfl (any_of HT_.out (by kernel_rfl)) (fun _ _ _ h=>h) (Or.inl ⟨by rfl,?_⟩) ?_ ?_ ?_
   rotate_left;(intro w';go_simp;with_reducible rfl);rotate_left;(simp only [Act.put,zp];rfl)
   refine zq 13 (some 99) ?_ #[O,O,O,O,O,O,O,O,O,O,G,G,G,O,G,G] rfl rfl (any_of HT_.out (by kernel_rfl)) (fun _ _ _ h=>h) (Or.inl ⟨by rfl,?_⟩) ?_ ?_ ?_
   rotate_left;(intro w';go_simp;with_reducible rfl);rotate_left;(simp only [Act.put,zp];rfl)
   refine one_ (i:=10) (N:=(some 96)) #[O,O,O,O,O,O,O,O,O,O,O,G,G,O,G,G] rfl rfl (one_of HT_.out (by kernel_rfl)) (by decide) (fun K hK=>?_)
   refine goes_ Tryd.func102 (by kernel_rfl) rfl #[.int .u8 (Go.bits .xor .u8 d a)] (by rfl) rfl rfl (by (try simp only [zm]); first|done|rfl) ?_
   refine (aes_twice.calls _ _ _ (tw_some (Go.bits .xor .u8 d a))).mono ?_
   rintro e w2 ⟨rfl,m,rfl⟩
   refine ⟨_,rfl,?_⟩
   refine hK.out _ _ HX3.out (fun hHeld=>?_)
   clear hK K
   refine norm_ (a':=?_) ?_ ?_
   rotate_left
   ·show Act.put _ (some 96) _=_
    simp only [Act.put,zp]
    rfl
   refine zq 11 (some 97) ?_ #[O,O,O,O,O,O,O,O,O,O,O,O,G,O,G,G] rfl rfl (any_of HT_.out (by kernel_rfl)) (fun _ _ _ h=>h) (Or.inl ⟨by rfl,?_⟩) ?_ ?_ ?_
   rotate_left;(intro w';go_simp;with_reducible rfl);rotate_left;(simp only [Act.put,zp];rfl)
   refine zq 12 (some 98) ?_ #[O,O,O,O,O,O,O,O,O,O,O,O,O,O,G,G] rfl rfl (any_of HT_.out (by kernel_rfl)) (fun _ _ _ h=>h) (Or.inl ⟨by rfl,?_⟩) ?_ ?_ ?_
   rotate_left;(intro w';go_simp;with_reducible rfl);rotate_left;(simp only [Act.put,zp];rfl)
   refine zq 14 (some 100) ?_ #[O,O,O,O,O,O,O,O,O,O,O,O,O,O,O,G] rfl rfl (any_of HT_.out (by kernel_rfl)) (fun _ _ _ h=>h) (Or.inl ⟨by rfl,?_⟩) ?_ ?_ ?_
   rotate_left;(intro w';go_simp;with_reducible rfl);rotate_left;(simp only [Act.put,zp];rfl)
   refine last_ (i:=15) (N:=none) #[O,O,O,O,O,O,O,O,O,O,O,O,O,O,O,O] rfl rfl (one_of HT_.out (by kernel_rfl)) (by decide) (fun K hK=>?_)
   refine skip_ (w1:=?_) (by rfl) rfl ?_ ?_
   rotate_left
   ·go_simp
    rfl
   refine hK.out _ _ ?_
   clear hK K
   refine done_ (done_of HT_.out (by kernel_rfl)) ?_
   clear hc3 hf3
   try go_wp2
   go_roundw
   case rel =>
    refine ⟨2+1,by omega,by first|rfl|go_num,⟨?_⟩,⟨?_⟩⟩
    ·refine (AK_store (w:=W3.drewN _) HX3.out 11 _).trans ?_
     have e:mxS s (2+1)=mx4 L 8 a b c d (x8 (x8 (x8 a b) c) d):=by rw [Ha.out,Hb.out,Hc.out,Hd.out,HLe.out]; rfl
     rw [e,hL3,hL2,hL1]; rfl
    ·exact grown_set (grown_drewN HW3.out _) _ _
   case measure=>simp [intOf]
  ·have HL:Aside0 ((mxS s 3).length=16):=⟨by rw [mxS_len,HS.out]⟩
   obtain ⟨L,hL⟩:∃ L,L=mxS s 3:=⟨_,rfl⟩
   rw [← hL] at HX HL
   have HLe:=zK hL
   clear hL
   have c0:=AK_cell HX.out 12 (by rw [HL.out]; decide)
   obtain ⟨a,ha⟩:∃ x,x=L.getD 12 0:=⟨_,rfl⟩
   rw [← ha] at c0
   have Ha:=zK ha
   clear ha
   have c1:=AK_cell HX.out 13 (by rw [HL.out]; decide)
   obtain ⟨b,hb⟩:∃ x,x=L.getD 13 0:=⟨_,rfl⟩
   rw [← hb] at c1
   have Hb:=zK hb
   clear hb
   have c2:=AK_cell HX.out 14 (by rw [HL.out]; decide)
   obtain ⟨c,hc⟩:∃ x,x=L.getD 14 0:=⟨_,rfl⟩
   rw [← hc] at c2
   have Hc:=zK hc
   clear hc
   have c3:=AK_cell HX.out 15 (by rw [HL.out]; decide)
   obtain ⟨d,hd⟩:∃ x,x=L.getD 15 0:=⟨_,rfl⟩
   rw [← hd] at c3
   have Hd:=zK hd
   clear hd
   have e12_:IntKind.i64.wrap 12=12:=rfl
   have e13_:IntKind.i64.wrap 13=13:=rfl
   have e14_:IntKind.i64.wrap 14=14:=rfl
   have e15_:IntKind.i64.wrap 15=15:=rfl
   have e16_:IntKind.i64.wrap 16=16:=rfl
   go_wp2_with fail
   go_quiet (fail)
   go_wp2_with fail
   clear c0 c1 c2 c3
   refine code_at (fun W=>W.heap[g]? = some (.cells (AK .u8 L) 101 (0,0))∧w.grownBy W (some g)) ⟨?_,?_⟩ ?_
   ·exact HX.out
   ·exact grown_drewN HW.out _
   intro W0 hW0
   have HX0:=zK hW0.1
   have HW0:=zK hW0.2
   clear hW0
   have HL0_:Aside0 (L.length=16):=⟨by exact HL.out⟩
   have HV0:Aside0 (L.getD 12 0=a):=⟨by exact Ha.out.symm⟩
   have hc0:=(AK_cell HX0.out 12 (by rw [HL0_.out]; decide)).trans (by rw [HV0.out])
   have hf0:=frozen_of_row W0 g 12 _ _ HX0.out
   refine start_ (n:=15) (S:=fun w'=>w'.heap[g]? = some (.cells (AK .u8 L) 101 (0,0))) (ds:=[14]) #[G,G,G,G,G,G,G,G,G,G,G,G,G,G,G] (by kernel_rfl) rfl rfl HX0.out (fun hHeld=>?_)
   refine with_tab (T:=rtab .any (opsOf Tryd.f100 5)) (by kernel_rfl) (fun HT_=>?_)
   refine zq 0 (some 42) ?_ #[O,G,G,G,G,G,G,G,G,G,G,G,G,G,G] rfl rfl (any_of HT_.out (by kernel_rfl)) (fun _ _ _ h=>h) (Or.inl ⟨by rfl,?_⟩) ?_ ?_ ?_
   rotate_left;(intro w';go_simp;with_reducible rfl);rotate_left;(simp only [Act.put,zp];rfl)
   refine zq 1 (some 43) ?_ #[O,O,G,G,G,G,G,G,G,G,G,G,G,G,G] rfl rfl (any_of HT_.out (by kernel_rfl)) (fun _ _ _ h=>h) (Or.inl ⟨by rfl,?_⟩) ?_ ?_ ?_
   rotate_left;(intro w';go_simp;with_reducible rfl);rotate_left;(simp only [Act.put,zp];rfl)
   refine zq 2 (some 44) ?_ #[O,O,O,G,G,G,G,G,G,G,G,G,G,G,G] rfl rfl (any_of HT_.out (by kernel_rfl)) (fun _ _ _ h=>h) (Or.inl ⟨by rfl,?_⟩) ?_ ?_ ?_
   rotate_left;(intro w';go_simp;with_reducible rfl);rotate_left;(simp only [Act.put,zp];rfl)
   refine zq 3 (some 45) ?_ #[O,O,O,O,G,G,G,G,G,G,G,G,G,G,G] rfl rfl (any_of HT_.out (by kernel_rfl)) (fun _ _ _ h=>h) (Or.inl ⟨by rfl,?_⟩) ?_ ?_ ?_
   rotate_left;(intro w';go_simp;with_reducible rfl);rotate_left;(simp only [Act.put,zp];rfl)
   refine take_ (i:=4) (N:=(some 46)) (v:=?_) (a':=?_) #[O,O,O,O,O,G,G,G,G,G,G,G,G,G,G] rfl rfl (take_of HT_.out (by kernel_rfl)) (fun _ _ _ h=>h) (Or.inl ⟨by rfl,?_⟩) hHeld ?_ ?_
   rotate_left
   ·intro w' hs'
    have hcl:=(AK_cell hs' 12 (by rw [HL0_.out]; decide)).trans (by rw [HV0.out])
    go_simp
    with_reducible rfl
   rotate_left
   ·simp only [Act.put,zp]
    rfl
   refine zq 5 (some 47) ?_ #[O,O,O,O,O,O,G,G,G,G,G,G,G,G,G] rfl rfl (any_of HT_.out (by kernel_rfl)) (fun _ _ _ h=>h) (Or.inl ⟨by rfl,?_⟩) ?_ ?_ ?_
   rotate_left;(intro w';go_simp;with_reducible rfl);rotate_left;(simp only [Act.put,zp];rfl)
   refine zq 6 (some 48) ?_ #[O,O,O,O,O,O,O,G,G,G,G,G,G,G,G] rfl rfl (any_of HT_.out (by kernel_rfl)) (fun _ _ _ h=>h) (Or.inl ⟨by rfl,?_⟩) ?_ ?_ ?_
   rotate_left;(intro w';go_simp;with_reducible rfl);rotate_left;(simp only [Act.put,zp];rfl)
   refine zq 7 (some 49) ?_ #[O,O,O,O,O,O,O,O,G,G,G,G,G,G,G] rfl rfl (any_of HT_.out (by kernel_rfl)) (fun _ _ _ h=>h) (Or.inl ⟨by rfl,?_⟩) ?_ ?_ ?_
   rotate_left;(intro w';go_simp;with_reducible rfl);rotate_left;(simp only [Act.put,zp];rfl)
   refine zq 8 (some 50) ?_ #[O,O,O,O,O,O,O,O,O,G,G,G,G,G,G] rfl rfl (any_of HT_.out (by kernel_rfl)) (fun _ _ _ h=>h) (Or.inl ⟨by rfl,?_⟩) ?_ ?_ ?_
   rotate_left;(intro w';go_simp;with_reducible rfl);rotate_left;(simp only [Act.put,zp];rfl)
   refine zq 12 (some 54) ?_ #[O,O,O,O,O,O,O,O,O,G,G,G,O,G,G] rfl rfl (any_of HT_.out (by kernel_rfl)) (fun _ _ _ h=>h) (Or.inl ⟨by rfl,?_⟩) ?_ ?_ ?_
   rotate_left;(intro w';go_simp;with_reducible rfl);rotate_left;(simp only [Act.put,zp];rfl)
   refine one_ (i:=9) (N:=(some 51)) #[O,O,O,O,O,O,O,O,O,O,G,G,O,G,G] rfl rfl (one_of HT_.out (by kernel_rfl)) (by decide) (fun K hK=>?_)
   refine goes_ Tryd.func102 (by kernel_rfl) rfl #[.int .u8 (Go.bits .xor .u8 a b)] (by rfl) rfl rfl (by (try simp only [zm]); first|done|rfl) ?_
   refine (aes_twice.calls _ _ _ (tw_some (Go.bits .xor .u8 a b))).mono ?_
   rintro e w2 ⟨rfl,m,rfl⟩
   refine ⟨_,rfl,?_⟩
   refine hK.out _ _ HX0.out (fun hHeld=>?_)
   clear hK K
   refine norm_ (a':=?_) ?_ ?_
   rotate_left
   ·show Act.put _ (some 51) _=_
    simp only [Act.put,zp]
    rfl
   refine zq 10 (some 52) ?_ #[O,O,O,O,O,O,O,O,O,O,O,G,O,G,G] rfl rfl (any_of HT_.out (by kernel_rfl)) (fun _ _ _ h=>h) (Or.inl ⟨by rfl,?_⟩) ?_ ?_ ?_
   rotate_left;(intro w';go_simp;with_reducible rfl);rotate_left;(simp only [Act.put,zp];rfl)
   refine zq 11 (some 53) ?_ #[O,O,O,O,O,O,O,O,O,O,O,O,O,G,G] rfl rfl (any_of HT_.out (by kernel_rfl)) (fun _ _ _ h=>h) (Or.inl ⟨by rfl,?_⟩) ?_ ?_ ?_
   rotate_left;(intro w';go_simp;with_reducible rfl);rotate_left;(simp only [Act.put,zp];rfl)
   refine zq 13 (some 55) ?_ #[O,O,O,O,O,O,O,O,O,O,O,O,O,O,G] rfl rfl (any_of HT_.out (by kernel_rfl)) (fun _ _ _ h=>h) (Or.inl ⟨by rfl,?_⟩) ?_ ?_ ?_
   rotate_left;(intro w';go_simp;with_reducible rfl);rotate_left;(simp only [Act.put,zp];rfl)
   refine last_ (i:=14) (N:=none) #[O,O,O,O,O,O,O,O,O,O,O,O,O,O,O] rfl rfl (one_of HT_.out (by kernel_rfl)) (by decide) (fun K hK=>?_)
   refine skip_ (w1:=?_) (by rfl) rfl ?_ ?_
   rotate_left
   ·go_simp
    rfl
   refine hK.out _ _ ?_
   clear hK K
   refine done_ (done_of HT_.out (by kernel_rfl)) ?_
   clear hc0 hf0
   obtain ⟨L1,hL1⟩:∃ x,x=L.set 12 (Go.bits .xor .u8 a (Go.bits .xor .u8 (Go.bits .xor .u8 (Go.bits .xor .u8 (Go.bits .xor .u8 a b) c) d) (tw (Go.bits .xor .u8 a b)))):=⟨_,rfl⟩
   try go_wp2_with fail
   refine code_at (fun W=>W.heap[g]? = some (.cells (AK .u8 L1) 101 (0,0))∧w.grownBy W (some g)) ⟨?_,?_⟩ ?_
   ·exact (AK_store (w:=W0.drewN _) HX0.out 12 _).trans (by rw [hL1])
   ·exact grown_set (grown_drewN HW0.out _) _ _
   intro W1 hW1
   have HX1:=zK hW1.1
   have HW1:=zK hW1.2
   clear hW1
   have HL1_:Aside0 (L1.length=16):=⟨by rw [hL1,List.length_set]; exact HL0_.out⟩
   have HV1:Aside0 (L1.getD 13 0=b):=⟨by rw [hL1,getD_set_ne _ _ _ _ (by decide)]; exact Hb.out.symm⟩
   have hc1:=(AK_cell HX1.out 13 (by rw [HL1_.out]; decide)).trans (by rw [HV1.out])
   have hf1:=frozen_of_row W1 g 13 _ _ HX1.out
   refine start_ (n:=16) (S:=fun w'=>w'.heap[g]? = some (.cells (AK .u8 L1) 101 (0,0))) (ds:=[15]) #[G,G,G,G,G,G,G,G,G,G,G,G,G,G,G,G] (by kernel_rfl) rfl rfl HX1.out (fun hHeld=>?_)
   refine with_tab (T:=rtab .any (opsOf Tryd.f100 6)) (by kernel_rfl) (fun HT_=>?_)
   refine zq 0 (some 56) ?_ #[O,G,G,G,G,G,G,G,G,G,G,G,G,G,G,G] rfl rfl (any_of HT_.out (by kernel_rfl)) (fun _ _ _ h=>h) (Or.inl ⟨by rfl,?_⟩) ?_ ?_ ?_
   rotate_left;(intro w';go_simp;with_reducible rfl);rotate_left;(simp only [Act.put,zp];rfl)
   refine zq 1 (some 57) ?_ #[O,O,G,G,G,G,G,G,G,G,G,G,G,G,G,G] rfl rfl (any_of HT_.out (by kernel_rfl)) (fun _ _ _ h=>h) (Or.inl ⟨by rfl,?_⟩) ?_ ?_ ?_
   rotate_left;(intro w';go_simp;with_reducible rfl);rotate_left;(simp only [Act.put,zp];rfl)
   refine zq 2 (some 58) ?_ #[O,O,O,G,G,G,G,G,G,G,G,G,G,G,G,G] rfl rfl (any_of HT_.out (by kernel_rfl)) (fun _ _ _ h=>h) (Or.inl ⟨by rfl,?_⟩) ?_ ?_ ?_
   rotate_left;(intro w';go_simp;with_reducible rfl);rotate_left;(simp only [Act.put,zp];rfl)
   refine zq 3 (some 59) ?_ #[O,O,O,O,G,G,G,G,G,G,G,G,G,G,G,G] rfl rfl (any_of HT_.out (by kernel_rfl)) (fun _ _ _ h=>h) (Or.inl ⟨by rfl,?_⟩) ?_ ?_ ?_
   rotate_left;(intro w';go_simp;with_reducible rfl);rotate_left;(simp only [Act.put,zp];rfl)
   refine zq 4 (some 60) ?_ #[O,O,O,O,O,G,G,G,G,G,G,G,G,G,G,G] rfl rfl (any_of HT_.out (by kernel_rfl)) (fun _ _ _ h=>h) (Or.inl ⟨by rfl,?_⟩) ?_ ?_ ?_
   rotate_left;(intro w';go_simp;with_reducible rfl);rotate_left;(simp only [Act.put,zp];rfl)
   refine take_ (i:=5) (N:=(some 61)) (v:=?_) (a':=?_) #[O,O,O,O,O,O,G,G,G,G,G,G,G,G,G,G] rfl rfl (take_of HT_.out (by kernel_rfl)) (fun _ _ _ h=>h) (Or.inl ⟨by rfl,?_⟩) hHeld ?_ ?_
   rotate_left
   ·intro w' hs'
    have hcl:=(AK_cell hs' 13 (by rw [HL1_.out]; decide)).trans (by rw [HV1.out])
    go_simp
    with_reducible rfl
   rotate_left
   ·simp only [Act.put,zp]
    rfl
   refine zq 6 (some 62) ?_ #[O,O,O,O,O,O,O,G,G,G,G,G,G,G,G,G] rfl rfl (any_of HT_.out (by kernel_rfl)) (fun _ _ _ h=>h) (Or.inl ⟨by rfl,?_⟩) ?_ ?_ ?_
   rotate_left;(intro w';go_simp;with_reducible rfl);rotate_left;(simp only [Act.put,zp];rfl)
   refine zq 7 (some 63) ?_ #[O,O,O,O,O,O,O,O,G,G,G,G,G,G,G,G] rfl rfl (any_of HT_.out (by kernel_rfl)) (fun _ _ _ h=>h) (Or.inl ⟨by rfl,?_⟩) ?_ ?_ ?_
   rotate_left;(intro w';go_simp;with_reducible rfl);rotate_left;(simp only [Act.put,zp];rfl)
   refine zq 8 (some 64) ?_ #[O,O,O,O,O,O,O,O,O,G,G,G,G,G,G,G] rfl rfl (any_of HT_.out (by kernel_rfl)) (fun _ _ _ h=>h) (Or.inl ⟨by rfl,?_⟩) ?_ ?_ ?_
   rotate_left;(intro w';go_simp;with_reducible rfl);rotate_left;(simp only [Act.put,zp];rfl)
   refine zq 9 (some 65) ?_ #[O,O,O,O,O,O,O,O,O,O,G,G,G,G,G,G] rfl rfl (any_of HT_.out (by kernel_rfl)) (fun _ _ _ h=>h) (Or.inl ⟨by rfl,?_⟩) ?_ ?_ ?_
   rotate_left;(intro w';go_simp;with_reducible rfl);rotate_left;(simp only [Act.put,zp];rfl)
   refine zq 13 (some 69) ?_ #[O,O,O,O,O,O,O,O,O,O,G,G,G,O,G,G] rfl rfl (any_of HT_.out (by kernel_rfl)) (fun _ _ _ h=>h) (Or.inl ⟨by rfl,?_⟩) ?_ ?_ ?_
   rotate_left;(intro w';go_simp;with_reducible rfl);rotate_left;(simp only [Act.put,zp];rfl)
   refine one_ (i:=10) (N:=(some 66)) #[O,O,O,O,O,O,O,O,O,O,O,G,G,O,G,G] rfl rfl (one_of HT_.out (by kernel_rfl)) (by decide) (fun K hK=>?_)
   refine goes_ Tryd.func102 (by kernel_rfl) rfl #[.int .u8 (Go.bits .xor .u8 b c)] (by rfl) rfl rfl (by (try simp only [zm]); first|done|rfl) ?_
   refine (aes_twice.calls _ _ _ (tw_some (Go.bits .xor .u8 b c))).mono ?_
   rintro e w2 ⟨rfl,m,rfl⟩
   refine ⟨_,rfl,?_⟩
   refine hK.out _ _ HX1.out (fun hHeld=>?_)
   clear hK K
   refine norm_ (a':=?_) ?_ ?_
   rotate_left
   ·show Act.put _ (some 66) _=_
    simp only [Act.put,zp]
    rfl
   refine zq 11 (some 67) ?_ #[O,O,O,O,O,O,O,O,O,O,O,O,G,O,G,G] rfl rfl (any_of HT_.out (by kernel_rfl)) (fun _ _ _ h=>h) (Or.inl ⟨by rfl,?_⟩) ?_ ?_ ?_
   rotate_left;(intro w';go_simp;with_reducible rfl);rotate_left;(simp only [Act.put,zp];rfl)
   refine zq 12 (some 68) ?_ #[O,O,O,O,O,O,O,O,O,O,O,O,O,O,G,G] rfl rfl (any_of HT_.out (by kernel_rfl)) (fun _ _ _ h=>h) (Or.inl ⟨by rfl,?_⟩) ?_ ?_ ?_
   rotate_left;(intro w';go_simp;with_reducible rfl);rotate_left;(simp only [Act.put,zp];rfl)
   refine zq 14 (some 70) ?_ #[O,O,O,O,O,O,O,O,O,O,O,O,O,O,O,G] rfl rfl (any_of HT_.out (by kernel_rfl)) (fun _ _ _ h=>h) (Or.inl ⟨by rfl,?_⟩) ?_ ?_ ?_
   rotate_left;(intro w';go_simp;with_reducible rfl);rotate_left;(simp only [Act.put,zp];rfl)
   refine last_ (i:=15) (N:=none) #[O,O,O,O,O,O,O,O,O,O,O,O,O,O,O,O] rfl rfl (one_of HT_.out (by kernel_rfl)) (by decide) (fun K hK=>?_)
   refine skip_ (w1:=?_) (by rfl) rfl ?_ ?_
   rotate_left
   ·go_simp
    rfl
   refine hK.out _ _ ?_
   clear hK K
   refine done_ (done_of HT_.out (by kernel_rfl)) ?_
   clear hc1 hf1
   obtain ⟨L2,hL2⟩:∃ x,x=L1.set 13 (Go.bits .xor .u8 b (Go.bits .xor .u8 (Go.bits .xor .u8 (Go.bits .xor .u8 (Go.bits .xor .u8 a b) c) d) (tw (Go.bits .xor .u8 b c)))):=⟨_,rfl⟩
   try go_wp2_with fail
   refine code_at (fun W=>W.heap[g]? = some (.cells (AK .u8 L2) 101 (0,0))∧w.grownBy W (some g)) ⟨?_,?_⟩ ?_
   ·exact (AK_store (w:=W1.drewN _) HX1.out 13 _).trans (by rw [hL2])
   ·exact grown_set (grown_drewN HW1.out _) _ _
   intro W2 hW2
   have HX2:=zK hW2.1
   have HW2:=zK hW2.2
   clear hW2
   have HL2_:Aside0 (L2.length=16):=⟨by rw [hL2,List.length_set]; exact HL1_.out⟩
   have HV2:Aside0 (L2.getD 14 0=c):=⟨by rw [hL2,getD_set_ne _ _ _ _ (by decide)]; rw [hL1,getD_set_ne _ _ _ _ (by decide)]; exact Hc.out.symm⟩
   have hc2:=(AK_cell HX2.out 14 (by rw [HL2_.out]; decide)).trans (by rw [HV2.out])
   have hf2:=frozen_of_row W2 g 14 _ _ HX2.out
   refine start_ (n:=16) (S:=fun w'=>w'.heap[g]? = some (.cells (AK .u8 L2) 101 (0,0))) (ds:=[15]) #[G,G,G,G,G,G,G,G,G,G,G,G,G,G,G,G] (by kernel_rfl) rfl rfl HX2.out (fun hHeld=>?_)
   refine with_tab (T:=rtab .any (opsOf Tryd.f100 7)) (by kernel_rfl) (fun HT_=>?_)
   refine zq 0 (some 71) ?_ #[O,G,G,G,G,G,G,G,G,G,G,G,G,G,G,G] rfl rfl (any_of HT_.out (by kernel_rfl)) (fun _ _ _ h=>h) (Or.inl ⟨by rfl,?_⟩) ?_ ?_ ?_
   rotate_left;(intro w';go_simp;with_reducible rfl);rotate_left;(simp only [Act.put,zp];rfl)
   refine zq 1 (some 72) ?_ #[O,O,G,G,G,G,G,G,G,G,G,G,G,G,G,G] rfl rfl (any_of HT_.out (by kernel_rfl)) (fun _ _ _ h=>h) (Or.inl ⟨by rfl,?_⟩) ?_ ?_ ?_
   rotate_left;(intro w';go_simp;with_reducible rfl);rotate_left;(simp only [Act.put,zp];rfl)
   refine zq 2 (some 73) ?_ #[O,O,O,G,G,G,G,G,G,G,G,G,G,G,G,G] rfl rfl (any_of HT_.out (by kernel_rfl)) (fun _ _ _ h=>h) (Or.inl ⟨by rfl,?_⟩) ?_ ?_ ?_
   rotate_left;(intro w';go_simp;with_reducible rfl);rotate_left;(simp only [Act.put,zp];rfl)
   refine zq 3 (some 74) ?_ #[O,O,O,O,G,G,G,G,G,G,G,G,G,G,G,G] rfl rfl (any_of HT_.out (by kernel_rfl)) (fun _ _ _ h=>h) (Or.inl ⟨by rfl,?_⟩) ?_ ?_ ?_
   rotate_left;(intro w';go_simp;with_reducible rfl);rotate_left;(simp only [Act.put,zp];rfl)
   refine zq 4 (some 75) ?_ #[O,O,O,O,O,G,G,G,G,G,G,G,G,G,G,G] rfl rfl (any_of HT_.out (by kernel_rfl)) (fun _ _ _ h=>h) (Or.inl ⟨by rfl,?_⟩) ?_ ?_ ?_
   rotate_left;(intro w';go_simp;with_reducible rfl);rotate_left;(simp only [Act.put,zp];rfl)
   refine take_ (i:=5) (N:=(some 76)) (v:=?_) (a':=?_) #[O,O,O,O,O,O,G,G,G,G,G,G,G,G,G,G] rfl rfl (take_of HT_.out (by kernel_rfl)) (fun _ _ _ h=>h) (Or.inl ⟨by rfl,?_⟩) hHeld ?_ ?_
   rotate_left
   ·intro w' hs'
    have hcl:=(AK_cell hs' 14 (by rw [HL2_.out]; decide)).trans (by rw [HV2.out])
    go_simp
    with_reducible rfl
   rotate_left
   ·simp only [Act.put,zp]
    rfl
   refine zq 6 (some 77) ?_ #[O,O,O,O,O,O,O,G,G,G,G,G,G,G,G,G] rfl rfl (any_of HT_.out (by kernel_rfl)) (fun _ _ _ h=>h) (Or.inl ⟨by rfl,?_⟩) ?_ ?_ ?_
   rotate_left;(intro w';go_simp;with_reducible rfl);rotate_left;(simp only [Act.put,zp];rfl)
   refine zq 7 (some 78) ?_ #[O,O,O,O,O,O,O,O,G,G,G,G,G,G,G,G] rfl rfl (any_of HT_.out (by kernel_rfl)) (fun _ _ _ h=>h) (Or.inl ⟨by rfl,?_⟩) ?_ ?_ ?_
   rotate_left;(intro w';go_simp;with_reducible rfl);rotate_left;(simp only [Act.put,zp];rfl)
   refine zq 8 (some 79) ?_ #[O,O,O,O,O,O,O,O,O,G,G,G,G,G,G,G] rfl rfl (any_of HT_.out (by kernel_rfl)) (fun _ _ _ h=>h) (Or.inl ⟨by rfl,?_⟩) ?_ ?_ ?_
   rotate_left;(intro w';go_simp;with_reducible rfl);rotate_left;(simp only [Act.put,zp];rfl)
   refine zq 9 (some 80) ?_ #[O,O,O,O,O,O,O,O,O,O,G,G,G,G,G,G] rfl rfl (any_of HT_.out (by kernel_rfl)) (fun _ _ _ h=>h) (Or.inl ⟨by rfl,?_⟩) ?_ ?_ ?_
   rotate_left;(intro w';go_simp;with_reducible rfl);rotate_left;(simp only [Act.put,zp];rfl)
   refine zq 13 (some 84) ?_ #[O,O,O,O,O,O,O,O,O,O,G,G,G,O,G,G] rfl rfl (any_of HT_.out (by kernel_rfl)) (fun _ _ _ h=>h) (Or.inl ⟨by rfl,?_⟩) ?_ ?_ ?_
   rotate_left;(intro w';go_simp;with_reducible rfl);rotate_left;(simp only [Act.put,zp];rfl)
   refine one_ (i:=10) (N:=(some 81)) #[O,O,O,O,O,O,O,O,O,O,O,G,G,O,G,G] rfl rfl (one_of HT_.out (by kernel_rfl)) (by decide) (fun K hK=>?_)
   refine goes_ Tryd.func102 (by kernel_rfl) rfl #[.int .u8 (Go.bits .xor .u8 c d)] (by rfl) rfl rfl (by (try simp only [zm]); first|done|rfl) ?_
   refine (aes_twice.calls _ _ _ (tw_some (Go.bits .xor .u8 c d))).mono ?_
   rintro e w2 ⟨rfl,m,rfl⟩
   refine ⟨_,rfl,?_⟩
   refine hK.out _ _ HX2.out (fun hHeld=>?_)
   clear hK K
   refine norm_ (a':=?_) ?_ ?_
   rotate_left
   ·show Act.put _ (some 81) _=_
    simp only [Act.put,zp]
    rfl
   refine zq 11 (some 82) ?_ #[O,O,O,O,O,O,O,O,O,O,O,O,G,O,G,G] rfl rfl (any_of HT_.out (by kernel_rfl)) (fun _ _ _ h=>h) (Or.inl ⟨by rfl,?_⟩) ?_ ?_ ?_
   rotate_left;(intro w';go_simp;with_reducible rfl);rotate_left;(simp only [Act.put,zp];rfl)
   refine zq 12 (some 83) ?_ #[O,O,O,O,O,O,O,O,O,O,O,O,O,O,G,G] rfl rfl (any_of HT_.out (by kernel_rfl)) (fun _ _ _ h=>h) (Or.inl ⟨by rfl,?_⟩) ?_ ?_ ?_
   rotate_left;(intro w';go_simp;with_reducible rfl);rotate_left;(simp only [Act.put,zp];rfl)
   refine zq 14 (some 85) ?_ #[O,O,O,O,O,O,O,O,O,O,O,O,O,O,O,G] rfl rfl (any_of HT_.out (by kernel_rfl)) (fun _ _ _ h=>h) (Or.inl ⟨by rfl,?_⟩) ?_ ?_ ?_
   rotate_left;(intro w';go_simp;with_reducible rfl);rotate_left;(simp only [Act.put,zp];rfl)
   refine last_ (i:=15) (N:=none) #[O,O,O,O,O,O,O,O,O,O,O,O,O,O,O,O] rfl rfl (one_of HT_.out (by kernel_rfl)) (by decide) (fun K hK=>?_)
   refine skip_ (w1:=?_) (by rfl) rfl ?_ ?_
   rotate_left
   ·go_simp
    rfl
   refine hK.out _ _ ?_
   clear hK K
   refine done_ (done_of HT_.out (by kernel_rfl)) ?_
   clear hc2 hf2
   obtain ⟨L3,hL3⟩:∃ x,x=L2.set 14 (Go.bits .xor .u8 c (Go.bits .xor .u8 (Go.bits .xor .u8 (Go.bits .xor .u8 (Go.bits .xor .u8 a b) c) d) (tw (Go.bits .xor .u8 c d)))):=⟨_,rfl⟩
   try go_wp2_with fail
   refine code_at (fun W=>W.heap[g]? = some (.cells (AK .u8 L3) 101 (0,0))∧w.grownBy W (some g)) ⟨?_,?_⟩ ?_
   ·exact (AK_store (w:=W2.drewN _) HX2.out 14 _).trans (by rw [hL3])
   ·exact grown_set (grown_drewN HW2.out _) _ _
   intro W3 hW3
   have HX3:=zK hW3.1
   have HW3:=zK hW3.2
   clear hW3
   have HL3_:Aside0 (L3.length=16):=⟨by rw [hL3,List.length_set]; exact HL2_.out⟩
   have HV3:Aside0 (L3.getD 15 0=d):=⟨by rw [hL3,getD_set_ne _ _ _ _ (by decide)]; rw [hL2,getD_set_ne _ _ _ _ (by decide)]; rw [hL1,getD_set_ne _ _ _ _ (by decide)]; exact Hd.out.symm⟩
   have hc3:=(AK_cell HX3.out 15 (by rw [HL3_.out]; decide)).trans (by rw [HV3.out])
   have hf3:=frozen_of_row W3 g 15 _ _ HX3.out
   refine start_ (n:=16) (S:=fun w'=>w'.heap[g]? = some (.cells (AK .u8 L3) 101 (0,0))) (ds:=[15]) #[G,G,G,G,G,G,G,G,G,G,G,G,G,G,G,G] (by kernel_rfl) rfl rfl HX3.out (fun hHeld=>?_)
   refine with_tab (T:=rtab .any (opsOf Tryd.f100 8)) (by kernel_rfl) (fun HT_=>?_)
   refine zq 0 (some 86) ?_ #[O,G,G,G,G,G,G,G,G,G,G,G,G,G,G,G] rfl rfl (any_of HT_.out (by kernel_rfl)) (fun _ _ _ h=>h) (Or.inl ⟨by rfl,?_⟩) ?_ ?_ ?_
   rotate_left;(intro w';go_simp;with_reducible rfl);rotate_left;(simp only [Act.put,zp];rfl)
   refine zq 1 (some 87) ?_ #[O,O,G,G,G,G,G,G,G,G,G,G,G,G,G,G] rfl rfl (any_of HT_.out (by kernel_rfl)) (fun _ _ _ h=>h) (Or.inl ⟨by rfl,?_⟩) ?_ ?_ ?_
   rotate_left;(intro w';go_simp;with_reducible rfl);rotate_left;(simp only [Act.put,zp];rfl)
   refine zq 2 (some 88) ?_ #[O,O,O,G,G,G,G,G,G,G,G,G,G,G,G,G] rfl rfl (any_of HT_.out (by kernel_rfl)) (fun _ _ _ h=>h) (Or.inl ⟨by rfl,?_⟩) ?_ ?_ ?_
   rotate_left;(intro w';go_simp;with_reducible rfl);rotate_left;(simp only [Act.put,zp];rfl)
   refine zq 3 (some 89) ?_ #[O,O,O,O,G,G,G,G,G,G,G,G,G,G,G,G] rfl rfl (any_of HT_.out (by kernel_rfl)) (fun _ _ _ h=>h) (Or.inl ⟨by rfl,?_⟩) ?_ ?_ ?_
   rotate_left;(intro w';go_simp;with_reducible rfl);rotate_left;(simp only [Act.put,zp];rfl)
   refine zq 4 (some 90) ?_ #[O,O,O,O,O,G,G,G,G,G,G,G,G,G,G,G] rfl rfl (any_of HT_.out (by kernel_rfl)) (fun _ _ _ h=>h) (Or.inl ⟨by rfl,?_⟩) ?_ ?_ ?_
   rotate_left;(intro w';go_simp;with_reducible rfl);rotate_left;(simp only [Act.put,zp];rfl)
   refine take_ (i:=5) (N:=(some 91)) (v:=?_) (a':=?_) #[O,O,O,O,O,O,G,G,G,G,G,G,G,G,G,G] rfl rfl (take_of HT_.out (by kernel_rfl)) (fun _ _ _ h=>h) (Or.inl ⟨by rfl,?_⟩) hHeld ?_ ?_
   rotate_left
   ·intro w' hs'
    have hcl:=(AK_cell hs' 15 (by rw [HL3_.out]; decide)).trans (by rw [HV3.out])
    go_simp
    with_reducible rfl
   rotate_left
   ·simp only [Act.put,zp]
    rfl
   refine zq 6 (some 92) ?_ #[O,O,O,O,O,O,O,G,G,G,G,G,G,G,G,G] rfl rfl (any_of HT_.out (by kernel_rfl)) (fun _ _ _ h=>h) (Or.inl ⟨by rfl,?_⟩) ?_ ?_ ?_
   rotate_left;(intro w';go_simp;with_reducible rfl);rotate_left;(simp only [Act.put,zp];rfl)
   refine zq 7 (some 93) ?_ #[O,O,O,O,O,O,O,O,G,G,G,G,G,G,G,G] rfl rfl (any_of HT_.out (by kernel_rfl)) (fun _ _ _ h=>h) (Or.inl ⟨by rfl,?_⟩) ?_ ?_ ?_
   rotate_left;(intro w';go_simp;with_reducible rfl);rotate_left;(simp only [Act.put,zp];rfl)
   refine zq 8 (some 94) ?_ #[O,O,O,O,O,O,O,O,O,G,G,G,G,G,G,G] rfl rfl (any_of HT_.out (by kernel_rfl)) (fun _ _ _ h=>h) (Or.inl ⟨by rfl,?_⟩) ?_ ?_ ?_
   rotate_left;(intro w';go_simp;with_reducible rfl);rotate_left;(simp only [Act.put,zp];rfl)
   refine zq 9 (some 95) ?_ #[O,O,O,O,O,O,O,O,O,O,G,G,G,G,G,G] rfl rfl (any_of HT_.out (by kernel_rfl)) (fun _ _ _ h=>h) (Or.inl ⟨by rfl,?_⟩) ?_ ?_ ?_
   rotate_left;(intro w';go_simp;with_reducible rfl);rotate_left;(simp only [Act.put,zp];rfl)
   refine zq 13 (some 99) ?_ #[O,O,O,O,O,O,O,O,O,O,G,G,G,O,G,G] rfl rfl (any_of HT_.out (by kernel_rfl)) (fun _ _ _ h=>h) (Or.inl ⟨by rfl,?_⟩) ?_ ?_ ?_
   rotate_left;(intro w';go_simp;with_reducible rfl);rotate_left;(simp only [Act.put,zp];rfl)
   refine one_ (i:=10) (N:=(some 96)) #[O,O,O,O,O,O,O,O,O,O,O,G,G,O,G,G] rfl rfl (one_of HT_.out (by kernel_rfl)) (by decide) (fun K hK=>?_)
   refine goes_ Tryd.func102 (by kernel_rfl) rfl #[.int .u8 (Go.bits .xor .u8 d a)] (by rfl) rfl rfl (by (try simp only [zm]); first|done|rfl) ?_
   refine (aes_twice.calls _ _ _ (tw_some (Go.bits .xor .u8 d a))).mono ?_
   rintro e w2 ⟨rfl,m,rfl⟩
   refine ⟨_,rfl,?_⟩
   refine hK.out _ _ HX3.out (fun hHeld=>?_)
   clear hK K
   refine norm_ (a':=?_) ?_ ?_
   rotate_left
   ·show Act.put _ (some 96) _=_
    simp only [Act.put,zp]
    rfl
   refine zq 11 (some 97) ?_ #[O,O,O,O,O,O,O,O,O,O,O,O,G,O,G,G] rfl rfl (any_of HT_.out (by kernel_rfl)) (fun _ _ _ h=>h) (Or.inl ⟨by rfl,?_⟩) ?_ ?_ ?_
   rotate_left;(intro w';go_simp;with_reducible rfl);rotate_left;(simp only [Act.put,zp];rfl)
   refine zq 12 (some 98) ?_ #[O,O,O,O,O,O,O,O,O,O,O,O,O,O,G,G] rfl rfl (any_of HT_.out (by kernel_rfl)) (fun _ _ _ h=>h) (Or.inl ⟨by rfl,?_⟩) ?_ ?_ ?_
   rotate_left;(intro w';go_simp;with_reducible rfl);rotate_left;(simp only [Act.put,zp];rfl)
   refine zq 14 (some 100) ?_ #[O,O,O,O,O,O,O,O,O,O,O,O,O,O,O,G] rfl rfl (any_of HT_.out (by kernel_rfl)) (fun _ _ _ h=>h) (Or.inl ⟨by rfl,?_⟩) ?_ ?_ ?_
   rotate_left;(intro w';go_simp;with_reducible rfl);rotate_left;(simp only [Act.put,zp];rfl)
   refine last_ (i:=15) (N:=none) #[O,O,O,O,O,O,O,O,O,O,O,O,O,O,O,O] rfl rfl (one_of HT_.out (by kernel_rfl)) (by decide) (fun K hK=>?_)
   refine skip_ (w1:=?_) (by rfl) rfl ?_ ?_
   rotate_left
   ·go_simp
    rfl
   refine hK.out _ _ ?_
   clear hK K
   refine done_ (done_of HT_.out (by kernel_rfl)) ?_
   clear hc3 hf3
   try go_wp2
   go_roundw
   case rel =>
    refine ⟨3+1,by omega,by first|rfl|go_num,⟨?_⟩,⟨?_⟩⟩
    ·refine (AK_store (w:=W3.drewN _) HX3.out 15 _).trans ?_
     have e:mxS s (3+1)=mx4 L 12 a b c d (x8 (x8 (x8 a b) c) d):=by rw [Ha.out,Hb.out,Hc.out,Hd.out,HLe.out]; rfl
     rw [e,hL3,hL2,hL1]; rfl
    ·exact grown_set (grown_drewN HW3.out _) _ _
   case measure=>simp [intOf]
end Go.Proofs.YtkgijkfcmbpgpaaDoor.Giv
end
