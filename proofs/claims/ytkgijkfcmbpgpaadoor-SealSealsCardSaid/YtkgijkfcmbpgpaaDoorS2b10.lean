import Derived.Test.YtkgijkfcmbpgpaaDoorS2b0
import Derived.Test.YtkgijkfcmbpgpaaDoorS2b1
import Derived.Test.YtkgijkfcmbpgpaaDoorS2b2
import Derived.Test.YtkgijkfcmbpgpaaDoorS2b9
section
namespace Go.Proofs.YtkgijkfcmbpgpaaDoor.PAll
open Go.RowKit Go.Proofs.YtkgijkfcmbpgpaaDoorW.PrintWords Go.Proofs.YtkgijkfcmbpgpaaDoorW.PrintLast Go.Proofs.YtkgijkfcmbpgpaaDoorW.PrintMore
open Go.Proofs.YtkgijkfcmbpgpaaDoor.Giv
attribute [local go_sem] max2_int min2_int max_two min_two max_three min_three max_four min_four
set_option linter.unusedVariables false
set_option linter.unusedSimpArgs false
def seal_Check.f (k:Nat) (a0:ByteArray) (a1:Int) (a2:ByteArray) (a3:ByteArray):Option (Int):=(seal_Sum.f a0 a1 a2).bind fun t288=>((hmac_Equal.f k t288 a3).bind fun t289=>(if t289=true then (some 0) else (some 62)))
set_option maxHeartbeats 8000000 in
set_option maxRecDepth 100000 in
theorem seal_Check.calls (k:Nat) (a0:ByteArray) (a1:Int) (a2:ByteArray) (a3:ByteArray) (r:Int) (w:World) {gw:GW w} (h:seal_Check.f k a0 a1 a2 a3=some r) :
 Calls Tryd.prog 55 #[.string a0,.int .i64 a1,.string a2,.string a3] w fun e w'=>e=.returned (.int .i64 r)∧Below w.heap.size w w':=by
 have HG:=zK gw
 clear gw
 have HB:=zK (Below.refl w.heap.size w)
 have H:((seal_Sum.f a0 a1 a2).bind fun t288=>((hmac_Equal.f k t288 a3).bind fun t289=>(if t289=true then (some 0) else (some 62))))=some r:=h
 clear h
 replace H:=Option.bind_eq_some_iff.mp H
 obtain ⟨t288,A50,H⟩:=H
 replace H:((hmac_Equal.f k t288 a3).bind fun t289=>(if t289=true then (some 0) else (some 62)))=some r:=H
 have A5:=zK A50
 clear A50
 replace H:=Option.bind_eq_some_iff.mp H
 obtain ⟨t289,A60,H⟩:=H
 replace H:(if t289=true then (some 0) else (some 62))=some r:=H
 have A6:=zK A60
 clear A60
 by_cases c7:t289=true
 case pos =>
  subst c7
  have H1:(some 0)=some r:=by rw [if_pos rfl] at H; exact H
  clear H
  have H:=H1
  clear H1
  obtain rfl:=Option.some.inj H
  go_enter Tryd.func55,Tryd.ntmps55
  go_wp2_with (first|((with_reducible refine gate_callee (f:=54) rfl ?_); refine goesL_ (some 12) rfl rfl Tryd.func54 (by kernel_rfl) rfl #[.string a0,.int .i64 a1,.string a2] rfl (by (try simp only [zm]); first|done|rfl|(simp only [zl]; rfl)) ?_; (with_reducible refine (seal_Sum.calls (gw:=?sideG) a0 a1 a2 t288 _ A5.out).mono ?_); (case sideG=>exact GW.below HG.out (by repeat (first|(with_reducible first|exact HB.out|apply zA|apply zN|apply zD)|exact HB.out))); rintro e w8 ⟨rfl,hb⟩; refine ⟨_,rfl,?_⟩; have n0_:=zK (below_step (by repeat (first|(with_reducible first|exact HB.out|apply zA|apply zN|apply zD)|exact HB.out)) hb); clear HB; have HB:=n0_; clear n0_; (try clear hb); (try clear hb2); (try clear hk); (try clear hi))|((with_reducible refine gate_callee (f:=39) rfl ?_); refine goesL_ (some 14) rfl rfl Tryd.func39 (by kernel_rfl) rfl #[.string t288,.string a3] rfl (by (try simp only [zm]); first|done|rfl|(simp only [zl]; rfl)) ?_; (with_reducible refine (hmac_Equal.calls k t288 a3 true _ A6.out).mono ?_); rintro e w' ⟨rfl,⟨nd,rfl⟩⟩; refine ⟨_,rfl,?_⟩))
  go_ret
  exact ⟨by first|rfl|(simp [errW_none,errW_some]<;>rfl)|(simp [*,errW_none,errW_some]<;>rfl),by repeat (first|(with_reducible first|exact HB.out|apply zA|apply zN|apply zD)|exact HB.out)⟩
 replace c7:=Bool.eq_false_iff.mpr c7
 subst c7
 have H1:(some 62)=some r:=by rw [if_neg (show ¬ (false=true) by decide)] at H; exact H
 clear H
 have H:=H1
 clear H1
 obtain rfl:=Option.some.inj H
 go_enter Tryd.func55,Tryd.ntmps55
 go_wp2_with (first|((with_reducible refine gate_callee (f:=54) rfl ?_); refine goesL_ (some 12) rfl rfl Tryd.func54 (by kernel_rfl) rfl #[.string a0,.int .i64 a1,.string a2] rfl (by (try simp only [zm]); first|done|rfl|(simp only [zl]; rfl)) ?_; (with_reducible refine (seal_Sum.calls (gw:=?sideG) a0 a1 a2 t288 _ A5.out).mono ?_); (case sideG=>exact GW.below HG.out (by repeat (first|(with_reducible first|exact HB.out|apply zA|apply zN|apply zD)|exact HB.out))); rintro e w9 ⟨rfl,hb⟩; refine ⟨_,rfl,?_⟩; have n0_:=zK (below_step (by repeat (first|(with_reducible first|exact HB.out|apply zA|apply zN|apply zD)|exact HB.out)) hb); clear HB; have HB:=n0_; clear n0_; (try clear hb); (try clear hb2); (try clear hk); (try clear hi))|((with_reducible refine gate_callee (f:=39) rfl ?_); refine goesL_ (some 14) rfl rfl Tryd.func39 (by kernel_rfl) rfl #[.string t288,.string a3] rfl (by (try simp only [zm]); first|done|rfl|(simp only [zl]; rfl)) ?_; (with_reducible refine (hmac_Equal.calls k t288 a3 false _ A6.out).mono ?_); rintro e w' ⟨rfl,⟨nd,rfl⟩⟩; refine ⟨_,rfl,?_⟩))
 go_ret
 exact ⟨by first|rfl|(simp [errW_none,errW_some]<;>rfl)|(simp [*,errW_none,errW_some]<;>rfl),by repeat (first|(with_reducible first|exact HB.out|apply zA|apply zN|apply zD)|exact HB.out)⟩
def legatelaw07_works.f (k:Nat):Option (Bool):=(seal_Seal.f k (⟨#[107]⟩:ByteArray) 1 (⟨#[48,49,50,51,52,53,54,55,56,57,97,98]⟩:ByteArray) (⟨#[]⟩:ByteArray)).bind fun bt290=>((seal_Open.f k (⟨#[107]⟩:ByteArray) 1 bt290.1).bind fun bt292=>((seal_Open.f k (⟨#[107]⟩:ByteArray) 1 (⟨#[120]⟩:ByteArray)).bind fun bt294=>(if (bt290.1.size:Int)=44 then (if bt290.2=0 then (if bt292.1.toList=([]:List UInt8) then (if bt292.2=0 then (if bt294.2=10 then ((seal_Sum.f (⟨#[107]⟩:ByteArray) 1 (⟨#[97]⟩:ByteArray)).bind fun t296=>((seal_Check.f k (⟨#[107]⟩:ByteArray) 1 (⟨#[97]⟩:ByteArray) t296).bind fun t297=>(some (t297 == 0)))) else (some false)) else (some false)) else (some false)) else (some false)) else (some false))))
set_option maxHeartbeats 8000000 in
set_option maxRecDepth 100000 in
theorem legatelaw07_works.calls (k:Nat) (r:Bool) (w:World) {gw:GW w} (h:legatelaw07_works.f k=some r) :
 Calls Tryd.prog 29 #[] w fun e w'=>e=.returned (.bool r)∧Below w.heap.size w w':=by
 have HG:=zK gw
 clear gw
 have HB:=zK (Below.refl w.heap.size w)
 have H:((seal_Seal.f k (⟨#[107]⟩:ByteArray) 1 (⟨#[48,49,50,51,52,53,54,55,56,57,97,98]⟩:ByteArray) (⟨#[]⟩:ByteArray)).bind fun bt290=>((seal_Open.f k (⟨#[107]⟩:ByteArray) 1 bt290.1).bind fun bt292=>((seal_Open.f k (⟨#[107]⟩:ByteArray) 1 (⟨#[120]⟩:ByteArray)).bind fun bt294=>(if (bt290.1.size:Int)=44 then (if bt290.2=0 then (if bt292.1.toList=([]:List UInt8) then (if bt292.2=0 then (if bt294.2=10 then ((seal_Sum.f (⟨#[107]⟩:ByteArray) 1 (⟨#[97]⟩:ByteArray)).bind fun t296=>((seal_Check.f k (⟨#[107]⟩:ByteArray) 1 (⟨#[97]⟩:ByteArray) t296).bind fun t297=>(some (t297 == 0)))) else (some false)) else (some false)) else (some false)) else (some false)) else (some false)))))=some r:=h
 clear h
 replace H:=Option.bind_eq_some_iff.mp H
 obtain ⟨⟨t290,t291⟩,A10,H⟩:=H
 replace H:((seal_Open.f k (⟨#[107]⟩:ByteArray) 1 t290).bind fun bt292=>((seal_Open.f k (⟨#[107]⟩:ByteArray) 1 (⟨#[120]⟩:ByteArray)).bind fun bt294=>(if (t290.size:Int)=44 then (if t291=0 then (if bt292.1.toList=([]:List UInt8) then (if bt292.2=0 then (if bt294.2=10 then ((seal_Sum.f (⟨#[107]⟩:ByteArray) 1 (⟨#[97]⟩:ByteArray)).bind fun t296=>((seal_Check.f k (⟨#[107]⟩:ByteArray) 1 (⟨#[97]⟩:ByteArray) t296).bind fun t297=>(some (t297 == 0)))) else (some false)) else (some false)) else (some false)) else (some false)) else (some false))))=some r:=H
 have A1:=zK A10
 clear A10
 replace H:=Option.bind_eq_some_iff.mp H
 obtain ⟨⟨t292,t293⟩,A20,H⟩:=H
 replace H:((seal_Open.f k (⟨#[107]⟩:ByteArray) 1 (⟨#[120]⟩:ByteArray)).bind fun bt294=>(if (t290.size:Int)=44 then (if t291=0 then (if t292.toList=([]:List UInt8) then (if t293=0 then (if bt294.2=10 then ((seal_Sum.f (⟨#[107]⟩:ByteArray) 1 (⟨#[97]⟩:ByteArray)).bind fun t296=>((seal_Check.f k (⟨#[107]⟩:ByteArray) 1 (⟨#[97]⟩:ByteArray) t296).bind fun t297=>(some (t297 == 0)))) else (some false)) else (some false)) else (some false)) else (some false)) else (some false)))=some r:=H
 have A2:=zK A20
 clear A20
 replace H:=Option.bind_eq_some_iff.mp H
 obtain ⟨⟨t294,t295⟩,A30,H⟩:=H
 replace H:(if (t290.size:Int)=44 then (if t291=0 then (if t292.toList=([]:List UInt8) then (if t293=0 then (if t295=10 then ((seal_Sum.f (⟨#[107]⟩:ByteArray) 1 (⟨#[97]⟩:ByteArray)).bind fun t296=>((seal_Check.f k (⟨#[107]⟩:ByteArray) 1 (⟨#[97]⟩:ByteArray) t296).bind fun t297=>(some (t297 == 0)))) else (some false)) else (some false)) else (some false)) else (some false)) else (some false))=some r:=H
 have A3:=zK A30
 clear A30
 by_cases c4:(t290.size:Int)=44
 case neg =>
  rw [if_neg c4] at H
  have c4b0:((t290.size:Int) == 44)=false:=beq_eq_false_iff_ne.mpr c4
  have c4b1:((t290.size:Int) != 44)=true:=bne_iff_ne.mpr c4
  obtain rfl:=Option.some.inj H
  go_enter Tryd.func29,Tryd.ntmps29
  go_wp2_with (first|((with_reducible refine gate_callee (f:=30) rfl ?_); refine goesL_ (some 8) rfl rfl Tryd.func30 (by kernel_rfl) rfl #[.string (⟨#[107]⟩:ByteArray),.int .i64 1,.string (⟨#[48,49,50,51,52,53,54,55,56,57,97,98]⟩:ByteArray),.string (⟨#[]⟩:ByteArray)] rfl (by (try simp only [zm]); first|done|rfl|(simp only [zl]; rfl)) ?_; (with_reducible refine (seal_Seal.calls (gw:=?sideG) k (⟨#[107]⟩:ByteArray) 1 (⟨#[48,49,50,51,52,53,54,55,56,57,97,98]⟩:ByteArray) (⟨#[]⟩:ByteArray) t290 t291 _ A1.out).mono ?_); (case sideG=>exact GW.below HG.out (by repeat (first|(with_reducible first|exact HB.out|apply zA|apply zN|apply zD)|exact HB.out))); rintro e w28 ⟨rfl,hb⟩; refine ⟨_,rfl,?_⟩; have n0_:=zK (below_step (by repeat (first|(with_reducible first|exact HB.out|apply zA|apply zN|apply zD)|exact HB.out)) hb); clear HB; have HB:=n0_; clear n0_; (try clear hb); (try clear hb2); (try clear hk); (try clear hi))|((with_reducible refine gate_callee (f:=33) rfl ?_); refine goesL_ (some 13) rfl rfl Tryd.func33 (by kernel_rfl) rfl #[.string (⟨#[107]⟩:ByteArray),.int .i64 1,.string t290] rfl (by (try simp only [zm]); first|done|rfl|(simp only [zl]; rfl)) ?_; (with_reducible refine (seal_Open.calls (gw:=?sideG) k (⟨#[107]⟩:ByteArray) 1 t290 t292 t293 _ A2.out).mono ?_); (case sideG=>exact GW.below HG.out (by repeat (first|(with_reducible first|exact HB.out|apply zA|apply zN|apply zD)|exact HB.out))); rintro e w29 ⟨rfl,hb⟩; refine ⟨_,rfl,?_⟩; have n0_:=zK (below_step (by repeat (first|(with_reducible first|exact HB.out|apply zA|apply zN|apply zD)|exact HB.out)) hb); clear HB; have HB:=n0_; clear n0_; (try clear hb); (try clear hb2); (try clear hk); (try clear hi))|((with_reducible refine gate_callee (f:=33) rfl ?_); refine goesL_ (some 17) rfl rfl Tryd.func33 (by kernel_rfl) rfl #[.string (⟨#[107]⟩:ByteArray),.int .i64 1,.string (⟨#[120]⟩:ByteArray)] rfl (by (try simp only [zm]); first|done|rfl|(simp only [zl]; rfl)) ?_; (with_reducible refine (seal_Open.calls (gw:=?sideG) k (⟨#[107]⟩:ByteArray) 1 (⟨#[120]⟩:ByteArray) t294 t295 _ A3.out).mono ?_); (case sideG=>exact GW.below HG.out (by repeat (first|(with_reducible first|exact HB.out|apply zA|apply zN|apply zD)|exact HB.out))); rintro e w30 ⟨rfl,hb⟩; refine ⟨_,rfl,?_⟩; have n0_:=zK (below_step (by repeat (first|(with_reducible first|exact HB.out|apply zA|apply zN|apply zD)|exact HB.out)) hb); clear HB; have HB:=n0_; clear n0_; (try clear hb); (try clear hb2); (try clear hk); (try clear hi)))
  go_ret
  exact ⟨by first|rfl|(simp [errW_none,errW_some]<;>rfl)|(simp [*,errW_none,errW_some]<;>rfl),by repeat (first|(with_reducible first|exact HB.out|apply zA|apply zN|apply zD)|exact HB.out)⟩
 rw [if_pos c4] at H
 have c4b0:((t290.size:Int) == 44)=true:=beq_iff_eq.mpr c4
 have c4b1:((t290.size:Int) != 44)=false:=bne_eq_false_iff_eq.mpr c4
 clear c4
 by_cases c5:t291=0
 case neg =>
  rw [if_neg c5] at H
  have c5b0:(t291 == 0)=false:=beq_eq_false_iff_ne.mpr c5
  have c5b1:(t291 != 0)=true:=bne_iff_ne.mpr c5
  obtain rfl:=Option.some.inj H
  go_enter Tryd.func29,Tryd.ntmps29
  go_wp2_with (first|((with_reducible refine gate_callee (f:=30) rfl ?_); refine goesL_ (some 8) rfl rfl Tryd.func30 (by kernel_rfl) rfl #[.string (⟨#[107]⟩:ByteArray),.int .i64 1,.string (⟨#[48,49,50,51,52,53,54,55,56,57,97,98]⟩:ByteArray),.string (⟨#[]⟩:ByteArray)] rfl (by (try simp only [zm]); first|done|rfl|(simp only [zl]; rfl)) ?_; (with_reducible refine (seal_Seal.calls (gw:=?sideG) k (⟨#[107]⟩:ByteArray) 1 (⟨#[48,49,50,51,52,53,54,55,56,57,97,98]⟩:ByteArray) (⟨#[]⟩:ByteArray) t290 t291 _ A1.out).mono ?_); (case sideG=>exact GW.below HG.out (by repeat (first|(with_reducible first|exact HB.out|apply zA|apply zN|apply zD)|exact HB.out))); rintro e w25 ⟨rfl,hb⟩; refine ⟨_,rfl,?_⟩; have n0_:=zK (below_step (by repeat (first|(with_reducible first|exact HB.out|apply zA|apply zN|apply zD)|exact HB.out)) hb); clear HB; have HB:=n0_; clear n0_; (try clear hb); (try clear hb2); (try clear hk); (try clear hi))|((with_reducible refine gate_callee (f:=33) rfl ?_); refine goesL_ (some 13) rfl rfl Tryd.func33 (by kernel_rfl) rfl #[.string (⟨#[107]⟩:ByteArray),.int .i64 1,.string t290] rfl (by (try simp only [zm]); first|done|rfl|(simp only [zl]; rfl)) ?_; (with_reducible refine (seal_Open.calls (gw:=?sideG) k (⟨#[107]⟩:ByteArray) 1 t290 t292 t293 _ A2.out).mono ?_); (case sideG=>exact GW.below HG.out (by repeat (first|(with_reducible first|exact HB.out|apply zA|apply zN|apply zD)|exact HB.out))); rintro e w26 ⟨rfl,hb⟩; refine ⟨_,rfl,?_⟩; have n0_:=zK (below_step (by repeat (first|(with_reducible first|exact HB.out|apply zA|apply zN|apply zD)|exact HB.out)) hb); clear HB; have HB:=n0_; clear n0_; (try clear hb); (try clear hb2); (try clear hk); (try clear hi))|((with_reducible refine gate_callee (f:=33) rfl ?_); refine goesL_ (some 17) rfl rfl Tryd.func33 (by kernel_rfl) rfl #[.string (⟨#[107]⟩:ByteArray),.int .i64 1,.string (⟨#[120]⟩:ByteArray)] rfl (by (try simp only [zm]); first|done|rfl|(simp only [zl]; rfl)) ?_; (with_reducible refine (seal_Open.calls (gw:=?sideG) k (⟨#[107]⟩:ByteArray) 1 (⟨#[120]⟩:ByteArray) t294 t295 _ A3.out).mono ?_); (case sideG=>exact GW.below HG.out (by repeat (first|(with_reducible first|exact HB.out|apply zA|apply zN|apply zD)|exact HB.out))); rintro e w27 ⟨rfl,hb⟩; refine ⟨_,rfl,?_⟩; have n0_:=zK (below_step (by repeat (first|(with_reducible first|exact HB.out|apply zA|apply zN|apply zD)|exact HB.out)) hb); clear HB; have HB:=n0_; clear n0_; (try clear hb); (try clear hb2); (try clear hk); (try clear hi)))
  go_ret
  exact ⟨by first|rfl|(simp [errW_none,errW_some]<;>rfl)|(simp [*,errW_none,errW_some]<;>rfl),by repeat (first|(with_reducible first|exact HB.out|apply zA|apply zN|apply zD)|exact HB.out)⟩
 rw [if_pos c5] at H
 have c5b0:(t291 == 0)=true:=beq_iff_eq.mpr c5
 have c5b1:(t291 != 0)=false:=bne_eq_false_iff_eq.mpr c5
 clear c5
 by_cases c6:t292.toList=([]:List UInt8)
 case neg =>
  rw [if_neg c6] at H
  have c6b0:(t292.toList == ([]:List UInt8))=false:=beq_eq_false_iff_ne.mpr c6
  have c6b1:(t292.toList != ([]:List UInt8))=true:=bne_iff_ne.mpr c6
  obtain rfl:=Option.some.inj H
  go_enter Tryd.func29,Tryd.ntmps29
  go_wp2_with (first|((with_reducible refine gate_callee (f:=30) rfl ?_); refine goesL_ (some 8) rfl rfl Tryd.func30 (by kernel_rfl) rfl #[.string (⟨#[107]⟩:ByteArray),.int .i64 1,.string (⟨#[48,49,50,51,52,53,54,55,56,57,97,98]⟩:ByteArray),.string (⟨#[]⟩:ByteArray)] rfl (by (try simp only [zm]); first|done|rfl|(simp only [zl]; rfl)) ?_; (with_reducible refine (seal_Seal.calls (gw:=?sideG) k (⟨#[107]⟩:ByteArray) 1 (⟨#[48,49,50,51,52,53,54,55,56,57,97,98]⟩:ByteArray) (⟨#[]⟩:ByteArray) t290 t291 _ A1.out).mono ?_); (case sideG=>exact GW.below HG.out (by repeat (first|(with_reducible first|exact HB.out|apply zA|apply zN|apply zD)|exact HB.out))); rintro e w22 ⟨rfl,hb⟩; refine ⟨_,rfl,?_⟩; have n0_:=zK (below_step (by repeat (first|(with_reducible first|exact HB.out|apply zA|apply zN|apply zD)|exact HB.out)) hb); clear HB; have HB:=n0_; clear n0_; (try clear hb); (try clear hb2); (try clear hk); (try clear hi))|((with_reducible refine gate_callee (f:=33) rfl ?_); refine goesL_ (some 13) rfl rfl Tryd.func33 (by kernel_rfl) rfl #[.string (⟨#[107]⟩:ByteArray),.int .i64 1,.string t290] rfl (by (try simp only [zm]); first|done|rfl|(simp only [zl]; rfl)) ?_; (with_reducible refine (seal_Open.calls (gw:=?sideG) k (⟨#[107]⟩:ByteArray) 1 t290 t292 t293 _ A2.out).mono ?_); (case sideG=>exact GW.below HG.out (by repeat (first|(with_reducible first|exact HB.out|apply zA|apply zN|apply zD)|exact HB.out))); rintro e w23 ⟨rfl,hb⟩; refine ⟨_,rfl,?_⟩; have n0_:=zK (below_step (by repeat (first|(with_reducible first|exact HB.out|apply zA|apply zN|apply zD)|exact HB.out)) hb); clear HB; have HB:=n0_; clear n0_; (try clear hb); (try clear hb2); (try clear hk); (try clear hi))|((with_reducible refine gate_callee (f:=33) rfl ?_); refine goesL_ (some 17) rfl rfl Tryd.func33 (by kernel_rfl) rfl #[.string (⟨#[107]⟩:ByteArray),.int .i64 1,.string (⟨#[120]⟩:ByteArray)] rfl (by (try simp only [zm]); first|done|rfl|(simp only [zl]; rfl)) ?_; (with_reducible refine (seal_Open.calls (gw:=?sideG) k (⟨#[107]⟩:ByteArray) 1 (⟨#[120]⟩:ByteArray) t294 t295 _ A3.out).mono ?_); (case sideG=>exact GW.below HG.out (by repeat (first|(with_reducible first|exact HB.out|apply zA|apply zN|apply zD)|exact HB.out))); rintro e w24 ⟨rfl,hb⟩; refine ⟨_,rfl,?_⟩; have n0_:=zK (below_step (by repeat (first|(with_reducible first|exact HB.out|apply zA|apply zN|apply zD)|exact HB.out)) hb); clear HB; have HB:=n0_; clear n0_; (try clear hb); (try clear hb2); (try clear hk); (try clear hi)))
  go_ret
  exact ⟨by first|rfl|(simp [errW_none,errW_some]<;>rfl)|(simp [*,errW_none,errW_some]<;>rfl),by repeat (first|(with_reducible first|exact HB.out|apply zA|apply zN|apply zD)|exact HB.out)⟩
 rw [if_pos c6] at H
 have c6b0:(t292.toList == ([]:List UInt8))=true:=beq_iff_eq.mpr c6
 have c6b1:(t292.toList != ([]:List UInt8))=false:=bne_eq_false_iff_eq.mpr c6
 clear c6
 by_cases c7:t293=0
 case neg =>
  rw [if_neg c7] at H
  have c7b0:(t293 == 0)=false:=beq_eq_false_iff_ne.mpr c7
  have c7b1:(t293 != 0)=true:=bne_iff_ne.mpr c7
  obtain rfl:=Option.some.inj H
  go_enter Tryd.func29,Tryd.ntmps29
  go_wp2_with (first|((with_reducible refine gate_callee (f:=30) rfl ?_); refine goesL_ (some 8) rfl rfl Tryd.func30 (by kernel_rfl) rfl #[.string (⟨#[107]⟩:ByteArray),.int .i64 1,.string (⟨#[48,49,50,51,52,53,54,55,56,57,97,98]⟩:ByteArray),.string (⟨#[]⟩:ByteArray)] rfl (by (try simp only [zm]); first|done|rfl|(simp only [zl]; rfl)) ?_; (with_reducible refine (seal_Seal.calls (gw:=?sideG) k (⟨#[107]⟩:ByteArray) 1 (⟨#[48,49,50,51,52,53,54,55,56,57,97,98]⟩:ByteArray) (⟨#[]⟩:ByteArray) t290 t291 _ A1.out).mono ?_); (case sideG=>exact GW.below HG.out (by repeat (first|(with_reducible first|exact HB.out|apply zA|apply zN|apply zD)|exact HB.out))); rintro e w19 ⟨rfl,hb⟩; refine ⟨_,rfl,?_⟩; have n0_:=zK (below_step (by repeat (first|(with_reducible first|exact HB.out|apply zA|apply zN|apply zD)|exact HB.out)) hb); clear HB; have HB:=n0_; clear n0_; (try clear hb); (try clear hb2); (try clear hk); (try clear hi))|((with_reducible refine gate_callee (f:=33) rfl ?_); refine goesL_ (some 13) rfl rfl Tryd.func33 (by kernel_rfl) rfl #[.string (⟨#[107]⟩:ByteArray),.int .i64 1,.string t290] rfl (by (try simp only [zm]); first|done|rfl|(simp only [zl]; rfl)) ?_; (with_reducible refine (seal_Open.calls (gw:=?sideG) k (⟨#[107]⟩:ByteArray) 1 t290 t292 t293 _ A2.out).mono ?_); (case sideG=>exact GW.below HG.out (by repeat (first|(with_reducible first|exact HB.out|apply zA|apply zN|apply zD)|exact HB.out))); rintro e w20 ⟨rfl,hb⟩; refine ⟨_,rfl,?_⟩; have n0_:=zK (below_step (by repeat (first|(with_reducible first|exact HB.out|apply zA|apply zN|apply zD)|exact HB.out)) hb); clear HB; have HB:=n0_; clear n0_; (try clear hb); (try clear hb2); (try clear hk); (try clear hi))|((with_reducible refine gate_callee (f:=33) rfl ?_); refine goesL_ (some 17) rfl rfl Tryd.func33 (by kernel_rfl) rfl #[.string (⟨#[107]⟩:ByteArray),.int .i64 1,.string (⟨#[120]⟩:ByteArray)] rfl (by (try simp only [zm]); first|done|rfl|(simp only [zl]; rfl)) ?_; (with_reducible refine (seal_Open.calls (gw:=?sideG) k (⟨#[107]⟩:ByteArray) 1 (⟨#[120]⟩:ByteArray) t294 t295 _ A3.out).mono ?_); (case sideG=>exact GW.below HG.out (by repeat (first|(with_reducible first|exact HB.out|apply zA|apply zN|apply zD)|exact HB.out))); rintro e w21 ⟨rfl,hb⟩; refine ⟨_,rfl,?_⟩; have n0_:=zK (below_step (by repeat (first|(with_reducible first|exact HB.out|apply zA|apply zN|apply zD)|exact HB.out)) hb); clear HB; have HB:=n0_; clear n0_; (try clear hb); (try clear hb2); (try clear hk); (try clear hi)))
  go_ret
  exact ⟨by first|rfl|(simp [errW_none,errW_some]<;>rfl)|(simp [*,errW_none,errW_some]<;>rfl),by repeat (first|(with_reducible first|exact HB.out|apply zA|apply zN|apply zD)|exact HB.out)⟩
 rw [if_pos c7] at H
 have c7b0:(t293 == 0)=true:=beq_iff_eq.mpr c7
 have c7b1:(t293 != 0)=false:=bne_eq_false_iff_eq.mpr c7
 clear c7
 by_cases c8:t295=10
 case neg =>
  rw [if_neg c8] at H
  have c8b0:(t295 == 10)=false:=beq_eq_false_iff_ne.mpr c8
  have c8b1:(t295 != 10)=true:=bne_iff_ne.mpr c8
  obtain rfl:=Option.some.inj H
  go_enter Tryd.func29,Tryd.ntmps29
  go_wp2_with (first|((with_reducible refine gate_callee (f:=30) rfl ?_); refine goesL_ (some 8) rfl rfl Tryd.func30 (by kernel_rfl) rfl #[.string (⟨#[107]⟩:ByteArray),.int .i64 1,.string (⟨#[48,49,50,51,52,53,54,55,56,57,97,98]⟩:ByteArray),.string (⟨#[]⟩:ByteArray)] rfl (by (try simp only [zm]); first|done|rfl|(simp only [zl]; rfl)) ?_; (with_reducible refine (seal_Seal.calls (gw:=?sideG) k (⟨#[107]⟩:ByteArray) 1 (⟨#[48,49,50,51,52,53,54,55,56,57,97,98]⟩:ByteArray) (⟨#[]⟩:ByteArray) t290 t291 _ A1.out).mono ?_); (case sideG=>exact GW.below HG.out (by repeat (first|(with_reducible first|exact HB.out|apply zA|apply zN|apply zD)|exact HB.out))); rintro e w16 ⟨rfl,hb⟩; refine ⟨_,rfl,?_⟩; have n0_:=zK (below_step (by repeat (first|(with_reducible first|exact HB.out|apply zA|apply zN|apply zD)|exact HB.out)) hb); clear HB; have HB:=n0_; clear n0_; (try clear hb); (try clear hb2); (try clear hk); (try clear hi))|((with_reducible refine gate_callee (f:=33) rfl ?_); refine goesL_ (some 13) rfl rfl Tryd.func33 (by kernel_rfl) rfl #[.string (⟨#[107]⟩:ByteArray),.int .i64 1,.string t290] rfl (by (try simp only [zm]); first|done|rfl|(simp only [zl]; rfl)) ?_; (with_reducible refine (seal_Open.calls (gw:=?sideG) k (⟨#[107]⟩:ByteArray) 1 t290 t292 t293 _ A2.out).mono ?_); (case sideG=>exact GW.below HG.out (by repeat (first|(with_reducible first|exact HB.out|apply zA|apply zN|apply zD)|exact HB.out))); rintro e w17 ⟨rfl,hb⟩; refine ⟨_,rfl,?_⟩; have n0_:=zK (below_step (by repeat (first|(with_reducible first|exact HB.out|apply zA|apply zN|apply zD)|exact HB.out)) hb); clear HB; have HB:=n0_; clear n0_; (try clear hb); (try clear hb2); (try clear hk); (try clear hi))|((with_reducible refine gate_callee (f:=33) rfl ?_); refine goesL_ (some 17) rfl rfl Tryd.func33 (by kernel_rfl) rfl #[.string (⟨#[107]⟩:ByteArray),.int .i64 1,.string (⟨#[120]⟩:ByteArray)] rfl (by (try simp only [zm]); first|done|rfl|(simp only [zl]; rfl)) ?_; (with_reducible refine (seal_Open.calls (gw:=?sideG) k (⟨#[107]⟩:ByteArray) 1 (⟨#[120]⟩:ByteArray) t294 t295 _ A3.out).mono ?_); (case sideG=>exact GW.below HG.out (by repeat (first|(with_reducible first|exact HB.out|apply zA|apply zN|apply zD)|exact HB.out))); rintro e w18 ⟨rfl,hb⟩; refine ⟨_,rfl,?_⟩; have n0_:=zK (below_step (by repeat (first|(with_reducible first|exact HB.out|apply zA|apply zN|apply zD)|exact HB.out)) hb); clear HB; have HB:=n0_; clear n0_; (try clear hb); (try clear hb2); (try clear hk); (try clear hi)))
  go_ret
  exact ⟨by first|rfl|(simp [errW_none,errW_some]<;>rfl)|(simp [*,errW_none,errW_some]<;>rfl),by repeat (first|(with_reducible first|exact HB.out|apply zA|apply zN|apply zD)|exact HB.out)⟩
 rw [if_pos c8] at H
 have c8b0:(t295 == 10)=true:=beq_iff_eq.mpr c8
 have c8b1:(t295 != 10)=false:=bne_eq_false_iff_eq.mpr c8
 clear c8
 replace H:=Option.bind_eq_some_iff.mp H
 obtain ⟨t296,A90,H⟩:=H
 replace H:((seal_Check.f k (⟨#[107]⟩:ByteArray) 1 (⟨#[97]⟩:ByteArray) t296).bind fun t297=>(some (t297 == 0)))=some r:=H
 have A9:=zK A90
 clear A90
 replace H:=Option.bind_eq_some_iff.mp H
 obtain ⟨t297,A100,H⟩:=H
 replace H:(some (t297 == 0))=some r:=H
 have A10:=zK A100
 clear A100
 obtain rfl:=Option.some.inj H
 go_enter Tryd.func29,Tryd.ntmps29
 go_wp2_with (first|((with_reducible refine gate_callee (f:=30) rfl ?_); refine goesL_ (some 8) rfl rfl Tryd.func30 (by kernel_rfl) rfl #[.string (⟨#[107]⟩:ByteArray),.int .i64 1,.string (⟨#[48,49,50,51,52,53,54,55,56,57,97,98]⟩:ByteArray),.string (⟨#[]⟩:ByteArray)] rfl (by (try simp only [zm]); first|done|rfl|(simp only [zl]; rfl)) ?_; (with_reducible refine (seal_Seal.calls (gw:=?sideG) k (⟨#[107]⟩:ByteArray) 1 (⟨#[48,49,50,51,52,53,54,55,56,57,97,98]⟩:ByteArray) (⟨#[]⟩:ByteArray) t290 t291 _ A1.out).mono ?_); (case sideG=>exact GW.below HG.out (by repeat (first|(with_reducible first|exact HB.out|apply zA|apply zN|apply zD)|exact HB.out))); rintro e w11 ⟨rfl,hb⟩; refine ⟨_,rfl,?_⟩; have n0_:=zK (below_step (by repeat (first|(with_reducible first|exact HB.out|apply zA|apply zN|apply zD)|exact HB.out)) hb); clear HB; have HB:=n0_; clear n0_; (try clear hb); (try clear hb2); (try clear hk); (try clear hi))|((with_reducible refine gate_callee (f:=33) rfl ?_); refine goesL_ (some 13) rfl rfl Tryd.func33 (by kernel_rfl) rfl #[.string (⟨#[107]⟩:ByteArray),.int .i64 1,.string t290] rfl (by (try simp only [zm]); first|done|rfl|(simp only [zl]; rfl)) ?_; (with_reducible refine (seal_Open.calls (gw:=?sideG) k (⟨#[107]⟩:ByteArray) 1 t290 t292 t293 _ A2.out).mono ?_); (case sideG=>exact GW.below HG.out (by repeat (first|(with_reducible first|exact HB.out|apply zA|apply zN|apply zD)|exact HB.out))); rintro e w12 ⟨rfl,hb⟩; refine ⟨_,rfl,?_⟩; have n0_:=zK (below_step (by repeat (first|(with_reducible first|exact HB.out|apply zA|apply zN|apply zD)|exact HB.out)) hb); clear HB; have HB:=n0_; clear n0_; (try clear hb); (try clear hb2); (try clear hk); (try clear hi))|((with_reducible refine gate_callee (f:=33) rfl ?_); refine goesL_ (some 17) rfl rfl Tryd.func33 (by kernel_rfl) rfl #[.string (⟨#[107]⟩:ByteArray),.int .i64 1,.string (⟨#[120]⟩:ByteArray)] rfl (by (try simp only [zm]); first|done|rfl|(simp only [zl]; rfl)) ?_; (with_reducible refine (seal_Open.calls (gw:=?sideG) k (⟨#[107]⟩:ByteArray) 1 (⟨#[120]⟩:ByteArray) t294 t295 _ A3.out).mono ?_); (case sideG=>exact GW.below HG.out (by repeat (first|(with_reducible first|exact HB.out|apply zA|apply zN|apply zD)|exact HB.out))); rintro e w13 ⟨rfl,hb⟩; refine ⟨_,rfl,?_⟩; have n0_:=zK (below_step (by repeat (first|(with_reducible first|exact HB.out|apply zA|apply zN|apply zD)|exact HB.out)) hb); clear HB; have HB:=n0_; clear n0_; (try clear hb); (try clear hb2); (try clear hk); (try clear hi))|(go_at_call 54; (with_reducible refine (seal_Sum.calls (gw:=?sideG) (⟨#[107]⟩:ByteArray) 1 (⟨#[97]⟩:ByteArray) t296 _ A9.out).mono ?_); (case sideG=>exact GW.below HG.out (by repeat (first|(with_reducible first|exact HB.out|apply zA|apply zN|apply zD)|exact HB.out))); rintro e w14 ⟨rfl,hb⟩; have n0_:=zK (below_step (by repeat (first|(with_reducible first|exact HB.out|apply zA|apply zN|apply zD)|exact HB.out)) hb); clear HB; have HB:=n0_; clear n0_; (try clear hb); (try clear hb2); (try clear hk); (try clear hi))|(go_at_call 55; (with_reducible refine (seal_Check.calls (gw:=?sideG) k (⟨#[107]⟩:ByteArray) 1 (⟨#[97]⟩:ByteArray) t296 t297 _ A10.out).mono ?_); (case sideG=>exact GW.below HG.out (by repeat (first|(with_reducible first|exact HB.out|apply zA|apply zN|apply zD)|exact HB.out))); rintro e w15 ⟨rfl,hb⟩; have n0_:=zK (below_step (by repeat (first|(with_reducible first|exact HB.out|apply zA|apply zN|apply zD)|exact HB.out)) hb); clear HB; have HB:=n0_; clear n0_; (try clear hb); (try clear hb2); (try clear hk); (try clear hi)))
 go_ret
 exact ⟨by first|rfl|(simp [errW_none,errW_some]<;>rfl)|(simp [*,errW_none,errW_some]<;>rfl),by repeat (first|(with_reducible first|exact HB.out|apply zA|apply zN|apply zD)|exact HB.out)⟩
end Go.Proofs.YtkgijkfcmbpgpaaDoor.PAll
end
