import Derived.Test.YtohcgenhhgipcaaPAx10
import Derived.Test.YtohcgenhhgipcaaPAx9
namespace Go.Proofs.Ytohcgenhhgipcaa.PA
open Go.RowKit Go.Proofs.YtohcgenhhgipcaaW.PrintWords Go.Proofs.YtohcgenhhgipcaaW.PrintLast Go.Proofs.YtohcgenhhgipcaaW.PrintMore
attribute [local go_sem] max2_int min2_int max_two min_two max_three min_three max_four min_four   -- for this text's walks alone
set_option linter.unusedVariables false
set_option linter.unusedSimpArgs false

mutual
def gangsawlaw54_LoadingRight.j0 : Nat → List (S64) → List (S54) → Bool → ByteArray → Int → Int → Int → Int → Int → Int → Int → Option (Bool)
 | 0,_,_,_,_,_,_,_,_,_,_,_=>none
 | k + 1,x5,x6,x108,x473000,x473001,x473002,x473003,x473004,x473005,x473006,x473007=>if x108 = true then (none) else (gangsawlaw54_LoadingRight.l0 k x5 x6 0 0 x473000 x473001 x473002 x473003 x473004 x473005 x473006 x473007)
def gangsawlaw54_LoadingRight.l0 : Nat → List (S64) → List (S54) → Int → Int → ByteArray → Int → Int → Int → Int → Int → Int → Int → Option (Bool)
 | 0,_,_,_,_,_,_,_,_,_,_,_,_=>none
 | k + 1,x5,x6,x12,x13,x473000,x473001,x473002,x473003,x473004,x473005,x473006,x473007=>if x13 < (x6.length : Int) then (if 0 ≤ x13 then (if (wrap64 (x12 + (((rd_T54 x6 x13).f1).length : Int))) > (x5.length : Int) then (gangsawlaw54_LoadingRight.j2 k x5 x6 x12 x13 (wrap64 (x12 + (((rd_T54 x6 x13).f1).length : Int))) true x473000 x473001 x473002 x473003 x473004 x473005 x473006 x473007) else (if 0 ≤ x12 then (if x12 ≤ (wrap64 (x12 + (((rd_T54 x6 x13).f1).length : Int))) then (if (wrap64 (x12 + (((rd_T54 x6 x13).f1).length : Int))) ≤ (x5.length : Int) then ((loading_Fits.f k x473000 x473001 x473002 x473003 x473004 x473005 x473006 x473007 ((x5.take ((wrap64 (x12 + (((rd_T54 x6 x13).f1).length : Int))) : Int).toNat).drop (x12 : Int).toNat)).bind fun t493=>(gangsawlaw54_LoadingRight.j2 k x5 x6 x12 x13 (wrap64 (x12 + (((rd_T54 x6 x13).f1).length : Int))) (t493 != 0) x473000 x473001 x473002 x473003 x473004 x473005 x473006 x473007)) else (none)) else (none)) else (none))) else (none)) else (some (x12 == (x5.length : Int)))
def gangsawlaw54_LoadingRight.j2 : Nat → List (S64) → List (S54) → Int → Int → Int → Bool → ByteArray → Int → Int → Int → Int → Int → Int → Int → Option (Bool)
 | 0,_,_,_,_,_,_,_,_,_,_,_,_,_,_=>none
 | k + 1,x5,x6,x12,x13,x14,x135,x473000,x473001,x473002,x473003,x473004,x473005,x473006,x473007=>if x135 = true then (none) else (gangsawlaw54_LoadingRight.l1 k x5 x6 x12 x13 x14 (wrap64 (x14 + 1)) x473000 x473001 x473002 x473003 x473004 x473005 x473006 x473007)
def gangsawlaw54_LoadingRight.l1 : Nat → List (S64) → List (S54) → Int → Int → Int → Int → ByteArray → Int → Int → Int → Int → Int → Int → Int → Option (Bool)
 | 0,_,_,_,_,_,_,_,_,_,_,_,_,_,_=>none
 | k + 1,x5,x6,x12,x13,x14,x15,x473000,x473001,x473002,x473003,x473004,x473005,x473006,x473007=>if x15 ≤ (x5.length : Int) then (if 0 ≤ x12 then (if x12 ≤ x15 then ((loading_Fits.f k x473000 x473001 x473002 x473003 x473004 x473005 x473006 x473007 ((x5.take (x15 : Int).toNat).drop (x12 : Int).toNat)).bind fun t498=>(if t498 = 0 then (none) else (gangsawlaw54_LoadingRight.l1 k x5 x6 x12 x13 x14 (wrap64 (x15 + 1)) x473000 x473001 x473002 x473003 x473004 x473005 x473006 x473007))) else (none)) else (none)) else (gangsawlaw54_LoadingRight.l0 k x5 x6 x14 (wrap64 (x13 + 1)) x473000 x473001 x473002 x473003 x473004 x473005 x473006 x473007)
end
def gangsawlaw54_LoadingRight.f (k : Nat) (a0_0 : ByteArray) (a0_1 : Int) (a0_2 : Int) (a0_3 : Int) (a0_4 : Int) (a0_5 : Int) (a0_6 : Int) (a0_7 : Int) (l1 : List (S65)) : Option (Bool):=(gangsawlaw54_awake.f k).bind fun t473=>(if t473 = true then (if (l1.length : Int) > 12 then (some true) else ((gangsawlaw54_ours.f k l1).bind fun t474=>((loading_Plan.f k a0_0 a0_1 a0_2 a0_3 a0_4 a0_5 a0_6 a0_7 t474).bind fun bt477=>((loading_Best.f k a0_0 a0_1 a0_2 a0_3 a0_4 a0_5 a0_6 a0_7 t474).bind fun bt481=>((loading_Alone.f k a0_0 a0_1 a0_2 a0_3 a0_4 a0_5 a0_6 a0_7 t474).bind fun bt483=>((loading_Check.f a0_0 a0_1 a0_2 a0_3 a0_4 a0_5 a0_6 a0_7 t474).bind fun t485=>(if t485 = 0 then (if bt477.2 = 0 then ((loading_Verify.f a0_0 a0_1 a0_2 a0_3 a0_4 a0_5 a0_6 a0_7 t474 bt477.1).bind fun t487=>(if t487 = 0 then (if bt481.2 = 0 then (if bt481.1 > (bt477.1.length : Int) then (gangsawlaw54_LoadingRight.j0 k t474 bt477.1 true a0_0 a0_1 a0_2 a0_3 a0_4 a0_5 a0_6 a0_7) else (if bt481.1 < 0 then (gangsawlaw54_LoadingRight.j0 k t474 bt477.1 true a0_0 a0_1 a0_2 a0_3 a0_4 a0_5 a0_6 a0_7) else (if bt481.1 = 0 then (gangsawlaw54_LoadingRight.j0 k t474 bt477.1 (decide ((t474.length : Int) > 0)) a0_0 a0_1 a0_2 a0_3 a0_4 a0_5 a0_6 a0_7) else (gangsawlaw54_LoadingRight.j0 k t474 bt477.1 false a0_0 a0_1 a0_2 a0_3 a0_4 a0_5 a0_6 a0_7)))) else (if bt481.2 = 7 then (gangsawlaw54_LoadingRight.j0 k t474 bt477.1 false a0_0 a0_1 a0_2 a0_3 a0_4 a0_5 a0_6 a0_7) else (gangsawlaw54_LoadingRight.j0 k t474 bt477.1 true a0_0 a0_1 a0_2 a0_3 a0_4 a0_5 a0_6 a0_7))) else (gangsawlaw54_LoadingRight.j0 k t474 bt477.1 true a0_0 a0_1 a0_2 a0_3 a0_4 a0_5 a0_6 a0_7))) else (if bt477.2 = 9 then (if bt483.2 = 0 then (some ((bt477.1.length : Int) == 0)) else (none)) else (none))) else ((loading_Check.f a0_0 a0_1 a0_2 a0_3 a0_4 a0_5 a0_6 a0_7 t474).bind fun t486=>(if bt477.2 = t486 then (if bt481.2 = bt477.2 then (some (bt483.2 == bt477.2)) else (none)) else (none)))))))))) else (none))
def gangsawlaw54_LoadingRight.T20 : Bool × List (List Nat × List Nat):=(true,[([],[]),([],[]),([1],[1]),([0,2],[0,2]),([3],[3]),([4],[4]),([4],[4]),([4],[4]),([4],[4]),([6,7,8,4],[4,6,7,8]),([5,9,4,4],[4,5,9]),([10,4],[4,10]),([4,11],[4,11])])
def gangsawlaw54_LoadingRight.B20 : List Nat:=[0,0,2,7,15,31,31,31,31,479,1023,2047,4095]
theorem gangsawlaw54_LoadingRight.tab20 : rtab .any (opsOf Try.f8 20) = gangsawlaw54_LoadingRight.T20:=by kernel_rfl
theorem gangsawlaw54_LoadingRight.bits20 : waitsOk gangsawlaw54_LoadingRight.T20.2 gangsawlaw54_LoadingRight.B20 = true:=by kernel_rfl
set_option maxHeartbeats 8000000 in
set_option maxRecDepth 100000 in
theorem gangsawlaw54_LoadingRight.calls (k : Nat) (a0_0 : ByteArray) (a0_1 : Int) (a0_2 : Int) (a0_3 : Int) (a0_4 : Int) (a0_5 : Int) (a0_6 : Int) (a0_7 : Int) (A1 : Option Addr) (c1 : Nat) (l1 : List (S65)) (r : Bool) (w : World) (hr1 : Kd.C k65 w A1 l1.length l1) (hc1 : l1.length ≤ c1) (h : gangsawlaw54_LoadingRight.f k a0_0 a0_1 a0_2 a0_3 a0_4 a0_5 a0_6 a0_7 l1 = some r) :
  Calls Try.prog 8 #[.agg #[.string a0_0,.int .i64 a0_1,.int .i64 a0_2,.int .i64 a0_3,.int .i64 a0_4,.int .i64 a0_5,.int .i64 a0_6,.int .i64 a0_7],.slice A1 l1.length c1] w fun e w'=>e = .returned (.bool r) ∧ Below w.heap.size w w':=by
 have hu24:=Try.underlying24;have HR1:=am hr1;have HC1:=am hc1;clear hr1 hc1;have HB:=am (Below.refl w.heap.size w);have H : ((gangsawlaw54_awake.f k).bind fun t473=>(if t473 = true then (if (l1.length : Int) > 12 then (some true) else ((gangsawlaw54_ours.f k l1).bind fun t474=>((loading_Plan.f k a0_0 a0_1 a0_2 a0_3 a0_4 a0_5 a0_6 a0_7 t474).bind fun bt477=>((loading_Best.f k a0_0 a0_1 a0_2 a0_3 a0_4 a0_5 a0_6 a0_7 t474).bind fun bt481=>((loading_Alone.f k a0_0 a0_1 a0_2 a0_3 a0_4 a0_5 a0_6 a0_7 t474).bind fun bt483=>((loading_Check.f a0_0 a0_1 a0_2 a0_3 a0_4 a0_5 a0_6 a0_7 t474).bind fun t485=>(if t485 = 0 then (if bt477.2 = 0 then ((loading_Verify.f a0_0 a0_1 a0_2 a0_3 a0_4 a0_5 a0_6 a0_7 t474 bt477.1).bind fun t487=>(if t487 = 0 then (if bt481.2 = 0 then (if bt481.1 > (bt477.1.length : Int) then (gangsawlaw54_LoadingRight.j0 k t474 bt477.1 true a0_0 a0_1 a0_2 a0_3 a0_4 a0_5 a0_6 a0_7) else (if bt481.1 < 0 then (gangsawlaw54_LoadingRight.j0 k t474 bt477.1 true a0_0 a0_1 a0_2 a0_3 a0_4 a0_5 a0_6 a0_7) else (if bt481.1 = 0 then (gangsawlaw54_LoadingRight.j0 k t474 bt477.1 (decide ((t474.length : Int) > 0)) a0_0 a0_1 a0_2 a0_3 a0_4 a0_5 a0_6 a0_7) else (gangsawlaw54_LoadingRight.j0 k t474 bt477.1 false a0_0 a0_1 a0_2 a0_3 a0_4 a0_5 a0_6 a0_7)))) else (if bt481.2 = 7 then (gangsawlaw54_LoadingRight.j0 k t474 bt477.1 false a0_0 a0_1 a0_2 a0_3 a0_4 a0_5 a0_6 a0_7) else (gangsawlaw54_LoadingRight.j0 k t474 bt477.1 true a0_0 a0_1 a0_2 a0_3 a0_4 a0_5 a0_6 a0_7))) else (gangsawlaw54_LoadingRight.j0 k t474 bt477.1 true a0_0 a0_1 a0_2 a0_3 a0_4 a0_5 a0_6 a0_7))) else (if bt477.2 = 9 then (if bt483.2 = 0 then (some ((bt477.1.length : Int) == 0)) else (none)) else (none))) else ((loading_Check.f a0_0 a0_1 a0_2 a0_3 a0_4 a0_5 a0_6 a0_7 t474).bind fun t486=>(if bt477.2 = t486 then (if bt481.2 = bt477.2 then (some (bt483.2 == bt477.2)) else (none)) else (none)))))))))) else (none))) = some r:=h;clear h;replace H:=Option.bind_eq_some_iff.mp H;obtain ⟨t473,A30,H⟩ := H;replace H : (if t473 = true then (if (l1.length : Int) > 12 then (some true) else ((gangsawlaw54_ours.f k l1).bind fun t474=>((loading_Plan.f k a0_0 a0_1 a0_2 a0_3 a0_4 a0_5 a0_6 a0_7 t474).bind fun bt477=>((loading_Best.f k a0_0 a0_1 a0_2 a0_3 a0_4 a0_5 a0_6 a0_7 t474).bind fun bt481=>((loading_Alone.f k a0_0 a0_1 a0_2 a0_3 a0_4 a0_5 a0_6 a0_7 t474).bind fun bt483=>((loading_Check.f a0_0 a0_1 a0_2 a0_3 a0_4 a0_5 a0_6 a0_7 t474).bind fun t485=>(if t485 = 0 then (if bt477.2 = 0 then ((loading_Verify.f a0_0 a0_1 a0_2 a0_3 a0_4 a0_5 a0_6 a0_7 t474 bt477.1).bind fun t487=>(if t487 = 0 then (if bt481.2 = 0 then (if bt481.1 > (bt477.1.length : Int) then (gangsawlaw54_LoadingRight.j0 k t474 bt477.1 true a0_0 a0_1 a0_2 a0_3 a0_4 a0_5 a0_6 a0_7) else (if bt481.1 < 0 then (gangsawlaw54_LoadingRight.j0 k t474 bt477.1 true a0_0 a0_1 a0_2 a0_3 a0_4 a0_5 a0_6 a0_7) else (if bt481.1 = 0 then (gangsawlaw54_LoadingRight.j0 k t474 bt477.1 (decide ((t474.length : Int) > 0)) a0_0 a0_1 a0_2 a0_3 a0_4 a0_5 a0_6 a0_7) else (gangsawlaw54_LoadingRight.j0 k t474 bt477.1 false a0_0 a0_1 a0_2 a0_3 a0_4 a0_5 a0_6 a0_7)))) else (if bt481.2 = 7 then (gangsawlaw54_LoadingRight.j0 k t474 bt477.1 false a0_0 a0_1 a0_2 a0_3 a0_4 a0_5 a0_6 a0_7) else (gangsawlaw54_LoadingRight.j0 k t474 bt477.1 true a0_0 a0_1 a0_2 a0_3 a0_4 a0_5 a0_6 a0_7))) else (gangsawlaw54_LoadingRight.j0 k t474 bt477.1 true a0_0 a0_1 a0_2 a0_3 a0_4 a0_5 a0_6 a0_7))) else (if bt477.2 = 9 then (if bt483.2 = 0 then (some ((bt477.1.length : Int) == 0)) else (none)) else (none))) else ((loading_Check.f a0_0 a0_1 a0_2 a0_3 a0_4 a0_5 a0_6 a0_7 t474).bind fun t486=>(if bt477.2 = t486 then (if bt481.2 = bt477.2 then (some (bt483.2 == bt477.2)) else (none)) else (none)))))))))) else (none)) = some r:=H;have A3:=am A30;clear A30;by_cases c4 : t473 = true
 ·subst c4
  have H1 : (if (l1.length : Int) > 12 then (some true) else ((gangsawlaw54_ours.f k l1).bind fun t474=>((loading_Plan.f k a0_0 a0_1 a0_2 a0_3 a0_4 a0_5 a0_6 a0_7 t474).bind fun bt477=>((loading_Best.f k a0_0 a0_1 a0_2 a0_3 a0_4 a0_5 a0_6 a0_7 t474).bind fun bt481=>((loading_Alone.f k a0_0 a0_1 a0_2 a0_3 a0_4 a0_5 a0_6 a0_7 t474).bind fun bt483=>((loading_Check.f a0_0 a0_1 a0_2 a0_3 a0_4 a0_5 a0_6 a0_7 t474).bind fun t485=>(if t485 = 0 then (if bt477.2 = 0 then ((loading_Verify.f a0_0 a0_1 a0_2 a0_3 a0_4 a0_5 a0_6 a0_7 t474 bt477.1).bind fun t487=>(if t487 = 0 then (if bt481.2 = 0 then (if bt481.1 > (bt477.1.length : Int) then (gangsawlaw54_LoadingRight.j0 k t474 bt477.1 true a0_0 a0_1 a0_2 a0_3 a0_4 a0_5 a0_6 a0_7) else (if bt481.1 < 0 then (gangsawlaw54_LoadingRight.j0 k t474 bt477.1 true a0_0 a0_1 a0_2 a0_3 a0_4 a0_5 a0_6 a0_7) else (if bt481.1 = 0 then (gangsawlaw54_LoadingRight.j0 k t474 bt477.1 (decide ((t474.length : Int) > 0)) a0_0 a0_1 a0_2 a0_3 a0_4 a0_5 a0_6 a0_7) else (gangsawlaw54_LoadingRight.j0 k t474 bt477.1 false a0_0 a0_1 a0_2 a0_3 a0_4 a0_5 a0_6 a0_7)))) else (if bt481.2 = 7 then (gangsawlaw54_LoadingRight.j0 k t474 bt477.1 false a0_0 a0_1 a0_2 a0_3 a0_4 a0_5 a0_6 a0_7) else (gangsawlaw54_LoadingRight.j0 k t474 bt477.1 true a0_0 a0_1 a0_2 a0_3 a0_4 a0_5 a0_6 a0_7))) else (gangsawlaw54_LoadingRight.j0 k t474 bt477.1 true a0_0 a0_1 a0_2 a0_3 a0_4 a0_5 a0_6 a0_7))) else (if bt477.2 = 9 then (if bt483.2 = 0 then (some ((bt477.1.length : Int) == 0)) else (none)) else (none))) else ((loading_Check.f a0_0 a0_1 a0_2 a0_3 a0_4 a0_5 a0_6 a0_7 t474).bind fun t486=>(if bt477.2 = t486 then (if bt481.2 = bt477.2 then (some (bt483.2 == bt477.2)) else (none)) else (none)))))))))) = some r:=by rw [if_pos rfl] at H;exact H
  clear H;have H:=H1;clear H1;by_cases c5 : (l1.length : Int) > 12
  ·rw [if_pos c5] at H;have c5b0 : decide (12 < (l1.length : Int)) = true:=decide_eq_true c5;have c5b1 : decide (12 < l1.length) = true:=decide_eq_true (by omega);clear c5;obtain rfl:=Option.some.inj H
   go_enter Try.func8,Try.ntmps8
   go_wp2_with (first|((with_reducible refine gate_dst (N:=2) rfl ?_);(try (refine gate_guard (by rfl) ?_;dsimp only));refine box_event ?hg (N:=2) ?hd (cs:=#[.string a0_0,.int .i64 a0_1,.int .i64 a0_2,.int .i64 a0_3,.int .i64 a0_4,.int .i64 a0_5,.int .i64 a0_6,.int .i64 a0_7]) (t:=24) ?hr ?_;(case hd=>rfl);(case hg=>rfl);(case hr=>first|(go_simp;done)|(go_simp;rfl));intro gb472 hg w6 hbox hb;have n0_:=am (below_step (by repeat (first|(with_reducible first|exact HB.out|apply lA|apply lN|apply lD)|exact HB.out)) hb);have n1_:=am (hbox);have n2_:=am ((by rw [hg];exact (below_size (by repeat (first|(with_reducible first|exact HB.out|apply lA|apply lN|apply lD)|exact HB.out))) : w.heap.size ≤ gb472));have n3_:=am ((by rw [hg];exact (below_size (by repeat (first|(with_reducible first|exact HB.out|apply lA|apply lN|apply lD)|exact HB.out))) : w.heap.size ≤ gb472));clear HB;have HB:=n0_;have BK472:=n1_;have GW472:=n2_;have GE472:=n3_;clear n0_ n1_ n2_ n3_;clear hb hbox hg)|((with_reducible refine gate_callee (f:=10) rfl ?_);refine goesL_ (some 16) rfl rfl Try.func10 (by kernel_rfl) rfl #[] rfl (by (try simp only [mT,mC,mN]);first|done|rfl|(simp only [lDr,lTk];rfl)) ?_;(with_reducible refine (gangsawlaw54_awake.calls k  true _ A3.out).mono ?_);rintro e w7 ⟨rfl,hb⟩;refine ⟨_,rfl, ?_⟩;have n0_:=am (blk_below (g:=gb472) (o:=.cells #[.string a0_0,.int .i64 a0_1,.int .i64 a0_2,.int .i64 a0_3,.int .i64 a0_4,.int .i64 a0_5,.int .i64 a0_6,.int .i64 a0_7] 24 (0,0)) (by (with_reducible repeat (first|apply bN|apply bD|apply bA));exact BK472.out) hb);have n1_:=am (below_step (by repeat (first|(with_reducible first|exact HB.out|apply lA|apply lN|apply lD|refine lS ?_ GE472.out)|exact HB.out)) hb);clear BK472;clear HB;have BK472:=n0_;have HB:=n1_;clear n0_ n1_;(try clear hb);(try clear hb2);(try clear hk);(try clear hi)))
   go_ret
   exact ⟨by first|rfl|(simp [errW_none,errW_some] <;> rfl)|(simp [*,errW_none,errW_some] <;> rfl),by repeat (first|(with_reducible first|exact HB.out|apply lA|apply lN|apply lD|refine lS ?_ GE472.out)|exact HB.out)⟩
  ·rw [if_neg c5] at H;have c5b0 : decide (12 < (l1.length : Int)) = false:=decide_eq_false c5;have c5b1 : decide (12 < l1.length) = false:=decide_eq_false (by omega);clear c5;replace H:=Option.bind_eq_some_iff.mp H;obtain ⟨t474,A80,H⟩ := H;replace H : ((loading_Plan.f k a0_0 a0_1 a0_2 a0_3 a0_4 a0_5 a0_6 a0_7 t474).bind fun bt477=>((loading_Best.f k a0_0 a0_1 a0_2 a0_3 a0_4 a0_5 a0_6 a0_7 t474).bind fun bt481=>((loading_Alone.f k a0_0 a0_1 a0_2 a0_3 a0_4 a0_5 a0_6 a0_7 t474).bind fun bt483=>((loading_Check.f a0_0 a0_1 a0_2 a0_3 a0_4 a0_5 a0_6 a0_7 t474).bind fun t485=>(if t485 = 0 then (if bt477.2 = 0 then ((loading_Verify.f a0_0 a0_1 a0_2 a0_3 a0_4 a0_5 a0_6 a0_7 t474 bt477.1).bind fun t487=>(if t487 = 0 then (if bt481.2 = 0 then (if bt481.1 > (bt477.1.length : Int) then (gangsawlaw54_LoadingRight.j0 k t474 bt477.1 true a0_0 a0_1 a0_2 a0_3 a0_4 a0_5 a0_6 a0_7) else (if bt481.1 < 0 then (gangsawlaw54_LoadingRight.j0 k t474 bt477.1 true a0_0 a0_1 a0_2 a0_3 a0_4 a0_5 a0_6 a0_7) else (if bt481.1 = 0 then (gangsawlaw54_LoadingRight.j0 k t474 bt477.1 (decide ((t474.length : Int) > 0)) a0_0 a0_1 a0_2 a0_3 a0_4 a0_5 a0_6 a0_7) else (gangsawlaw54_LoadingRight.j0 k t474 bt477.1 false a0_0 a0_1 a0_2 a0_3 a0_4 a0_5 a0_6 a0_7)))) else (if bt481.2 = 7 then (gangsawlaw54_LoadingRight.j0 k t474 bt477.1 false a0_0 a0_1 a0_2 a0_3 a0_4 a0_5 a0_6 a0_7) else (gangsawlaw54_LoadingRight.j0 k t474 bt477.1 true a0_0 a0_1 a0_2 a0_3 a0_4 a0_5 a0_6 a0_7))) else (gangsawlaw54_LoadingRight.j0 k t474 bt477.1 true a0_0 a0_1 a0_2 a0_3 a0_4 a0_5 a0_6 a0_7))) else (if bt477.2 = 9 then (if bt483.2 = 0 then (some ((bt477.1.length : Int) == 0)) else (none)) else (none))) else ((loading_Check.f a0_0 a0_1 a0_2 a0_3 a0_4 a0_5 a0_6 a0_7 t474).bind fun t486=>(if bt477.2 = t486 then (if bt481.2 = bt477.2 then (some (bt483.2 == bt477.2)) else (none)) else (none)))))))) = some r:=H;have A8:=am A80;clear A80;replace H:=Option.bind_eq_some_iff.mp H;obtain ⟨⟨t477,t480⟩,A90,H⟩ := H;replace H : ((loading_Best.f k a0_0 a0_1 a0_2 a0_3 a0_4 a0_5 a0_6 a0_7 t474).bind fun bt481=>((loading_Alone.f k a0_0 a0_1 a0_2 a0_3 a0_4 a0_5 a0_6 a0_7 t474).bind fun bt483=>((loading_Check.f a0_0 a0_1 a0_2 a0_3 a0_4 a0_5 a0_6 a0_7 t474).bind fun t485=>(if t485 = 0 then (if t480 = 0 then ((loading_Verify.f a0_0 a0_1 a0_2 a0_3 a0_4 a0_5 a0_6 a0_7 t474 t477).bind fun t487=>(if t487 = 0 then (if bt481.2 = 0 then (if bt481.1 > (t477.length : Int) then (gangsawlaw54_LoadingRight.j0 k t474 t477 true a0_0 a0_1 a0_2 a0_3 a0_4 a0_5 a0_6 a0_7) else (if bt481.1 < 0 then (gangsawlaw54_LoadingRight.j0 k t474 t477 true a0_0 a0_1 a0_2 a0_3 a0_4 a0_5 a0_6 a0_7) else (if bt481.1 = 0 then (gangsawlaw54_LoadingRight.j0 k t474 t477 (decide ((t474.length : Int) > 0)) a0_0 a0_1 a0_2 a0_3 a0_4 a0_5 a0_6 a0_7) else (gangsawlaw54_LoadingRight.j0 k t474 t477 false a0_0 a0_1 a0_2 a0_3 a0_4 a0_5 a0_6 a0_7)))) else (if bt481.2 = 7 then (gangsawlaw54_LoadingRight.j0 k t474 t477 false a0_0 a0_1 a0_2 a0_3 a0_4 a0_5 a0_6 a0_7) else (gangsawlaw54_LoadingRight.j0 k t474 t477 true a0_0 a0_1 a0_2 a0_3 a0_4 a0_5 a0_6 a0_7))) else (gangsawlaw54_LoadingRight.j0 k t474 t477 true a0_0 a0_1 a0_2 a0_3 a0_4 a0_5 a0_6 a0_7))) else (if t480 = 9 then (if bt483.2 = 0 then (some ((t477.length : Int) == 0)) else (none)) else (none))) else ((loading_Check.f a0_0 a0_1 a0_2 a0_3 a0_4 a0_5 a0_6 a0_7 t474).bind fun t486=>(if t480 = t486 then (if bt481.2 = t480 then (some (bt483.2 == t480)) else (none)) else (none))))))) = some r:=H;have A9:=am A90;clear A90;replace H:=Option.bind_eq_some_iff.mp H;obtain ⟨⟨t481,t482⟩,A100,H⟩ := H;replace H : ((loading_Alone.f k a0_0 a0_1 a0_2 a0_3 a0_4 a0_5 a0_6 a0_7 t474).bind fun bt483=>((loading_Check.f a0_0 a0_1 a0_2 a0_3 a0_4 a0_5 a0_6 a0_7 t474).bind fun t485=>(if t485 = 0 then (if t480 = 0 then ((loading_Verify.f a0_0 a0_1 a0_2 a0_3 a0_4 a0_5 a0_6 a0_7 t474 t477).bind fun t487=>(if t487 = 0 then (if t482 = 0 then (if t481 > (t477.length : Int) then (gangsawlaw54_LoadingRight.j0 k t474 t477 true a0_0 a0_1 a0_2 a0_3 a0_4 a0_5 a0_6 a0_7) else (if t481 < 0 then (gangsawlaw54_LoadingRight.j0 k t474 t477 true a0_0 a0_1 a0_2 a0_3 a0_4 a0_5 a0_6 a0_7) else (if t481 = 0 then (gangsawlaw54_LoadingRight.j0 k t474 t477 (decide ((t474.length : Int) > 0)) a0_0 a0_1 a0_2 a0_3 a0_4 a0_5 a0_6 a0_7) else (gangsawlaw54_LoadingRight.j0 k t474 t477 false a0_0 a0_1 a0_2 a0_3 a0_4 a0_5 a0_6 a0_7)))) else (if t482 = 7 then (gangsawlaw54_LoadingRight.j0 k t474 t477 false a0_0 a0_1 a0_2 a0_3 a0_4 a0_5 a0_6 a0_7) else (gangsawlaw54_LoadingRight.j0 k t474 t477 true a0_0 a0_1 a0_2 a0_3 a0_4 a0_5 a0_6 a0_7))) else (gangsawlaw54_LoadingRight.j0 k t474 t477 true a0_0 a0_1 a0_2 a0_3 a0_4 a0_5 a0_6 a0_7))) else (if t480 = 9 then (if bt483.2 = 0 then (some ((t477.length : Int) == 0)) else (none)) else (none))) else ((loading_Check.f a0_0 a0_1 a0_2 a0_3 a0_4 a0_5 a0_6 a0_7 t474).bind fun t486=>(if t480 = t486 then (if t482 = t480 then (some (bt483.2 == t480)) else (none)) else (none)))))) = some r:=H;have A10:=am A100;clear A100;replace H:=Option.bind_eq_some_iff.mp H;obtain ⟨⟨t483,t484⟩,A110,H⟩ := H;replace H : ((loading_Check.f a0_0 a0_1 a0_2 a0_3 a0_4 a0_5 a0_6 a0_7 t474).bind fun t485=>(if t485 = 0 then (if t480 = 0 then ((loading_Verify.f a0_0 a0_1 a0_2 a0_3 a0_4 a0_5 a0_6 a0_7 t474 t477).bind fun t487=>(if t487 = 0 then (if t482 = 0 then (if t481 > (t477.length : Int) then (gangsawlaw54_LoadingRight.j0 k t474 t477 true a0_0 a0_1 a0_2 a0_3 a0_4 a0_5 a0_6 a0_7) else (if t481 < 0 then (gangsawlaw54_LoadingRight.j0 k t474 t477 true a0_0 a0_1 a0_2 a0_3 a0_4 a0_5 a0_6 a0_7) else (if t481 = 0 then (gangsawlaw54_LoadingRight.j0 k t474 t477 (decide ((t474.length : Int) > 0)) a0_0 a0_1 a0_2 a0_3 a0_4 a0_5 a0_6 a0_7) else (gangsawlaw54_LoadingRight.j0 k t474 t477 false a0_0 a0_1 a0_2 a0_3 a0_4 a0_5 a0_6 a0_7)))) else (if t482 = 7 then (gangsawlaw54_LoadingRight.j0 k t474 t477 false a0_0 a0_1 a0_2 a0_3 a0_4 a0_5 a0_6 a0_7) else (gangsawlaw54_LoadingRight.j0 k t474 t477 true a0_0 a0_1 a0_2 a0_3 a0_4 a0_5 a0_6 a0_7))) else (gangsawlaw54_LoadingRight.j0 k t474 t477 true a0_0 a0_1 a0_2 a0_3 a0_4 a0_5 a0_6 a0_7))) else (if t480 = 9 then (if t484 = 0 then (some ((t477.length : Int) == 0)) else (none)) else (none))) else ((loading_Check.f a0_0 a0_1 a0_2 a0_3 a0_4 a0_5 a0_6 a0_7 t474).bind fun t486=>(if t480 = t486 then (if t482 = t480 then (some (t484 == t480)) else (none)) else (none))))) = some r:=H;have A11:=am A110;clear A110;replace H:=Option.bind_eq_some_iff.mp H;obtain ⟨t485,A120,H⟩ := H;replace H : (if t485 = 0 then (if t480 = 0 then ((loading_Verify.f a0_0 a0_1 a0_2 a0_3 a0_4 a0_5 a0_6 a0_7 t474 t477).bind fun t487=>(if t487 = 0 then (if t482 = 0 then (if t481 > (t477.length : Int) then (gangsawlaw54_LoadingRight.j0 k t474 t477 true a0_0 a0_1 a0_2 a0_3 a0_4 a0_5 a0_6 a0_7) else (if t481 < 0 then (gangsawlaw54_LoadingRight.j0 k t474 t477 true a0_0 a0_1 a0_2 a0_3 a0_4 a0_5 a0_6 a0_7) else (if t481 = 0 then (gangsawlaw54_LoadingRight.j0 k t474 t477 (decide ((t474.length : Int) > 0)) a0_0 a0_1 a0_2 a0_3 a0_4 a0_5 a0_6 a0_7) else (gangsawlaw54_LoadingRight.j0 k t474 t477 false a0_0 a0_1 a0_2 a0_3 a0_4 a0_5 a0_6 a0_7)))) else (if t482 = 7 then (gangsawlaw54_LoadingRight.j0 k t474 t477 false a0_0 a0_1 a0_2 a0_3 a0_4 a0_5 a0_6 a0_7) else (gangsawlaw54_LoadingRight.j0 k t474 t477 true a0_0 a0_1 a0_2 a0_3 a0_4 a0_5 a0_6 a0_7))) else (gangsawlaw54_LoadingRight.j0 k t474 t477 true a0_0 a0_1 a0_2 a0_3 a0_4 a0_5 a0_6 a0_7))) else (if t480 = 9 then (if t484 = 0 then (some ((t477.length : Int) == 0)) else (none)) else (none))) else ((loading_Check.f a0_0 a0_1 a0_2 a0_3 a0_4 a0_5 a0_6 a0_7 t474).bind fun t486=>(if t480 = t486 then (if t482 = t480 then (some (t484 == t480)) else (none)) else (none)))) = some r:=H;have A12:=am A120;clear A120;by_cases c13 : t485 = 0
   ·rw [if_pos c13] at H;have c13b0 : (t485 == 0) = true:=beq_iff_eq.mpr c13;have c13b1 : (t485 != 0) = false:=bne_eq_false_iff_eq.mpr c13;clear c13;by_cases c14 : t480 = 0
    ·rw [if_pos c14] at H;have c14b0 : (t480 == 0) = true:=beq_iff_eq.mpr c14;have c14b1 : (t480 != 0) = false:=bne_eq_false_iff_eq.mpr c14;clear c14;have HC15:=am H;clear H
     go_enter Try.func8,Try.ntmps8
     go_upto_region 13 with (first|((with_reducible refine gate_dst (N:=2) rfl ?_);(try (refine gate_guard (by rfl) ?_;dsimp only));refine box_event ?hg (N:=2) ?hd (cs:=#[.string a0_0,.int .i64 a0_1,.int .i64 a0_2,.int .i64 a0_3,.int .i64 a0_4,.int .i64 a0_5,.int .i64 a0_6,.int .i64 a0_7]) (t:=24) ?hr ?_;(case hd=>rfl);(case hg=>rfl);(case hr=>first|(go_simp;done)|(go_simp;rfl));intro gb472 hg w16 hbox hb;have n0_:=am (below_step (by repeat (first|(with_reducible first|exact HB.out|apply lA|apply lN|apply lD)|exact HB.out)) hb);have n1_:=am (hbox);have n2_:=am ((by rw [hg];exact (below_size (by repeat (first|(with_reducible first|exact HB.out|apply lA|apply lN|apply lD)|exact HB.out))) : w.heap.size ≤ gb472));have n3_:=am ((by rw [hg];exact (below_size (by repeat (first|(with_reducible first|exact HB.out|apply lA|apply lN|apply lD)|exact HB.out))) : w.heap.size ≤ gb472));clear HB;have HB:=n0_;have BK472:=n1_;have GW472:=n2_;have GE472:=n3_;clear n0_ n1_ n2_ n3_;clear hb hbox hg)|((with_reducible refine gate_callee (f:=10) rfl ?_);refine goesL_ (some 16) rfl rfl Try.func10 (by kernel_rfl) rfl #[] rfl (by (try simp only [mT,mC,mN]);first|done|rfl|(simp only [lDr,lTk];rfl)) ?_;(with_reducible refine (gangsawlaw54_awake.calls k  true _ A3.out).mono ?_);rintro e w17 ⟨rfl,hb⟩;refine ⟨_,rfl, ?_⟩;have n0_:=am (blk_below (g:=gb472) (o:=.cells #[.string a0_0,.int .i64 a0_1,.int .i64 a0_2,.int .i64 a0_3,.int .i64 a0_4,.int .i64 a0_5,.int .i64 a0_6,.int .i64 a0_7] 24 (0,0)) (by (with_reducible repeat (first|apply bN|apply bD|apply bA));exact BK472.out) hb);have n1_:=am (below_step (by repeat (first|(with_reducible first|exact HB.out|apply lA|apply lN|apply lD|refine lS ?_ GE472.out)|exact HB.out)) hb);clear BK472;clear HB;have BK472:=n0_;have HB:=n1_;clear n0_ n1_;(try clear hb);(try clear hb2);(try clear hk);(try clear hi))|((with_reducible refine gate_callee (f:=13) rfl ?_);refine goesL_ (some 22) rfl rfl Try.func13 (by kernel_rfl) rfl #[.slice A1 l1.length c1] rfl (by (try simp only [mT,mC,mN]);first|done|rfl|(simp only [lDr,lTk];rfl)) ?_;(with_reducible refine (gangsawlaw54_ours.calls k _ _ l1 t474 _ ?side1 ?side2 A8.out).mono ?_);(case side1=>repeat (first|exact (kB HR1.out HB.out)|(with_reducible first|apply kA|apply kN|apply kD)));(case side2=>exact HC1.out);rintro e w18 ⟨v475,rfl,ho0,hb⟩;refine ⟨_,rfl, ?_⟩;have n0_:=am (Kd.R_lower ho0 (below_size (by repeat (first|(with_reducible first|exact HB.out|apply lA|apply lN|apply lD|refine lS ?_ GE472.out)|exact HB.out))));have n1_:=am (blk_below (g:=gb472) (o:=.cells #[.string a0_0,.int .i64 a0_1,.int .i64 a0_2,.int .i64 a0_3,.int .i64 a0_4,.int .i64 a0_5,.int .i64 a0_6,.int .i64 a0_7] 24 (0,0)) (by (with_reducible repeat (first|apply bN|apply bD|apply bA));exact BK472.out) hb);have n2_:=am (below_step (by repeat (first|(with_reducible first|exact HB.out|apply lA|apply lN|apply lD|refine lS ?_ GE472.out)|exact HB.out)) hb);clear BK472;clear HB;have HO476:=n0_;have BK472:=n1_;have HB:=n2_;clear n0_ n1_ n2_;(try clear hb);(try clear hb2);(try clear hk);(try clear hi);(try clear ho0);have hcz19_0 : w18.cell? ⟨gb472,0,none⟩ = some (.string a0_0):=(blk_cell BK472.out 0).trans rfl;have hcz19_1 : w18.cell? ⟨gb472,1,none⟩ = some (.int .i64 a0_1):=(blk_cell BK472.out 1).trans rfl;have hcz19_2 : w18.cell? ⟨gb472,2,none⟩ = some (.int .i64 a0_2):=(blk_cell BK472.out 2).trans rfl;have hcz19_3 : w18.cell? ⟨gb472,3,none⟩ = some (.int .i64 a0_3):=(blk_cell BK472.out 3).trans rfl;have hcz19_4 : w18.cell? ⟨gb472,4,none⟩ = some (.int .i64 a0_4):=(blk_cell BK472.out 4).trans rfl;have hcz19_5 : w18.cell? ⟨gb472,5,none⟩ = some (.int .i64 a0_5):=(blk_cell BK472.out 5).trans rfl;have hcz19_6 : w18.cell? ⟨gb472,6,none⟩ = some (.int .i64 a0_6):=(blk_cell BK472.out 6).trans rfl;have hcz19_7 : w18.cell? ⟨gb472,7,none⟩ = some (.int .i64 a0_7):=(blk_cell BK472.out 7).trans rfl;have hfz19_0:=blk_frozen BK472.out 0;have hfz19_1:=blk_frozen BK472.out 1;have hfz19_2:=blk_frozen BK472.out 2;have hfz19_3:=blk_frozen BK472.out 3;have hfz19_4:=blk_frozen BK472.out 4;have hfz19_5:=blk_frozen BK472.out 5;have hfz19_6:=blk_frozen BK472.out 6;have hfz19_7:=blk_frozen BK472.out 7;obtain ⟨Ao20,co20,eo20⟩ := Kd.R_slice HO476.out;subst eo20)|((with_reducible refine gate_callee (f:=19) rfl ?_);refine goesL_ (some 26) rfl rfl Try.func19 (by kernel_rfl) rfl #[.agg #[.string a0_0,.int .i64 a0_1,.int .i64 a0_2,.int .i64 a0_3,.int .i64 a0_4,.int .i64 a0_5,.int .i64 a0_6,.int .i64 a0_7],.slice Ao20 t474.length co20] rfl (by (try simp only [mT,mC,mN]);first|done|rfl|(simp only [lDr,lTk];rfl)) ?_;(with_reducible refine (loading_Plan.calls k a0_0 a0_1 a0_2 a0_3 a0_4 a0_5 a0_6 a0_7 (fun k_=>some k_ = (.slice Ao20 t474.length co20 : Value).ownBlock) _ _ t474 t477 t480 _ ?side1 A9.out).mono ?_);(case side1=>exact Kd.R_V (Kd.R_tight rfl (Kd.R_types (HO476.out) BK472.out (by decide))));rintro e w21 ⟨v478,rfl,ho0,hb⟩;refine ⟨_,rfl, ?_⟩;have n0_:=am (Kd.R_below (by (with_reducible repeat (first|apply rA|apply rN|apply rD));exact HO476.out) hb);have n1_:=am (Kd.S_lower (Kd.S_mono (ok':=fun k_=>True) ho0 (fun _ hk_=>trivial)) (below_size (by repeat (first|(with_reducible first|exact HB.out|apply lA|apply lN|apply lD|refine lS ?_ GE472.out)|exact HB.out))));have n2_:=am (blk_below (g:=gb472) (o:=.cells #[.string a0_0,.int .i64 a0_1,.int .i64 a0_2,.int .i64 a0_3,.int .i64 a0_4,.int .i64 a0_5,.int .i64 a0_6,.int .i64 a0_7] 24 (0,0)) (by (with_reducible repeat (first|apply bN|apply bD|apply bA));exact BK472.out) hb);have n3_:=am (below_step (by repeat (first|(with_reducible first|exact HB.out|apply lA|apply lN|apply lD|refine lS ?_ GE472.out)|exact HB.out)) hb);clear HO476;clear BK472;clear HB;have HO476:=n0_;have HO479:=n1_;have BK472:=n2_;have HB:=n3_;clear n0_ n1_ n2_ n3_;(try clear hb);(try clear hb2);(try clear hk);(try clear hi);(try clear ho0);have hcz22_0 : w21.cell? ⟨gb472,0,none⟩ = some (.string a0_0):=(blk_cell BK472.out 0).trans rfl;have hcz22_1 : w21.cell? ⟨gb472,1,none⟩ = some (.int .i64 a0_1):=(blk_cell BK472.out 1).trans rfl;have hcz22_2 : w21.cell? ⟨gb472,2,none⟩ = some (.int .i64 a0_2):=(blk_cell BK472.out 2).trans rfl;have hcz22_3 : w21.cell? ⟨gb472,3,none⟩ = some (.int .i64 a0_3):=(blk_cell BK472.out 3).trans rfl;have hcz22_4 : w21.cell? ⟨gb472,4,none⟩ = some (.int .i64 a0_4):=(blk_cell BK472.out 4).trans rfl;have hcz22_5 : w21.cell? ⟨gb472,5,none⟩ = some (.int .i64 a0_5):=(blk_cell BK472.out 5).trans rfl;have hcz22_6 : w21.cell? ⟨gb472,6,none⟩ = some (.int .i64 a0_6):=(blk_cell BK472.out 6).trans rfl;have hcz22_7 : w21.cell? ⟨gb472,7,none⟩ = some (.int .i64 a0_7):=(blk_cell BK472.out 7).trans rfl;have hfz22_0:=blk_frozen BK472.out 0;have hfz22_1:=blk_frozen BK472.out 1;have hfz22_2:=blk_frozen BK472.out 2;have hfz22_3:=blk_frozen BK472.out 3;have hfz22_4:=blk_frozen BK472.out 4;have hfz22_5:=blk_frozen BK472.out 5;have hfz22_6:=blk_frozen BK472.out 6;have hfz22_7:=blk_frozen BK472.out 7)|((with_reducible refine gate_callee (f:=28) rfl ?_);refine goesL_ (some 32) rfl rfl Try.func28 (by kernel_rfl) rfl #[.agg #[.string a0_0,.int .i64 a0_1,.int .i64 a0_2,.int .i64 a0_3,.int .i64 a0_4,.int .i64 a0_5,.int .i64 a0_6,.int .i64 a0_7],.slice Ao20 t474.length co20] rfl (by (try simp only [mT,mC,mN]);first|done|rfl|(simp only [lDr,lTk];rfl)) ?_;(with_reducible refine (loading_Best.calls k a0_0 a0_1 a0_2 a0_3 a0_4 a0_5 a0_6 a0_7 _ _ t474 t481 t482 _ ?side1 ?side2 A10.out).mono ?_);(case side1=>repeat (first|exact (Kd.R_reads' HO476.out).2.2|(with_reducible first|apply kA|apply kN|apply kD)));(case side2=>exact (Kd.R_reads' HO476.out).2.1);rintro e w23 ⟨rfl,hb⟩;refine ⟨_,rfl, ?_⟩;have n0_:=am (Kd.R_below (by (with_reducible repeat (first|apply rA|apply rN|apply rD));exact HO476.out) hb);have n1_:=am (Kd.S_below (by (with_reducible repeat (first|apply Kd.S_alloc|apply Kd.S_drewN|apply Kd.S_drew));exact HO479.out) hb);have n2_:=am (blk_below (g:=gb472) (o:=.cells #[.string a0_0,.int .i64 a0_1,.int .i64 a0_2,.int .i64 a0_3,.int .i64 a0_4,.int .i64 a0_5,.int .i64 a0_6,.int .i64 a0_7] 24 (0,0)) (by (with_reducible repeat (first|apply bN|apply bD|apply bA));exact BK472.out) hb);have n3_:=am (below_step (by repeat (first|(with_reducible first|exact HB.out|apply lA|apply lN|apply lD|refine lS ?_ GE472.out)|exact HB.out)) hb);clear HO476;clear HO479;clear BK472;clear HB;have HO476:=n0_;have HO479:=n1_;have BK472:=n2_;have HB:=n3_;clear n0_ n1_ n2_ n3_;(try clear hb);(try clear hb2);(try clear hk);(try clear hi);have hcz24_0 : w23.cell? ⟨gb472,0,none⟩ = some (.string a0_0):=(blk_cell BK472.out 0).trans rfl;have hcz24_1 : w23.cell? ⟨gb472,1,none⟩ = some (.int .i64 a0_1):=(blk_cell BK472.out 1).trans rfl;have hcz24_2 : w23.cell? ⟨gb472,2,none⟩ = some (.int .i64 a0_2):=(blk_cell BK472.out 2).trans rfl;have hcz24_3 : w23.cell? ⟨gb472,3,none⟩ = some (.int .i64 a0_3):=(blk_cell BK472.out 3).trans rfl;have hcz24_4 : w23.cell? ⟨gb472,4,none⟩ = some (.int .i64 a0_4):=(blk_cell BK472.out 4).trans rfl;have hcz24_5 : w23.cell? ⟨gb472,5,none⟩ = some (.int .i64 a0_5):=(blk_cell BK472.out 5).trans rfl;have hcz24_6 : w23.cell? ⟨gb472,6,none⟩ = some (.int .i64 a0_6):=(blk_cell BK472.out 6).trans rfl;have hcz24_7 : w23.cell? ⟨gb472,7,none⟩ = some (.int .i64 a0_7):=(blk_cell BK472.out 7).trans rfl;have hfz24_0:=blk_frozen BK472.out 0;have hfz24_1:=blk_frozen BK472.out 1;have hfz24_2:=blk_frozen BK472.out 2;have hfz24_3:=blk_frozen BK472.out 3;have hfz24_4:=blk_frozen BK472.out 4;have hfz24_5:=blk_frozen BK472.out 5;have hfz24_6:=blk_frozen BK472.out 6;have hfz24_7:=blk_frozen BK472.out 7)|((with_reducible refine gate_callee (f:=12) rfl ?_);refine goesL_ (some 38) rfl rfl Try.func12 (by kernel_rfl) rfl #[.agg #[.string a0_0,.int .i64 a0_1,.int .i64 a0_2,.int .i64 a0_3,.int .i64 a0_4,.int .i64 a0_5,.int .i64 a0_6,.int .i64 a0_7],.slice Ao20 t474.length co20] rfl (by (try simp only [mT,mC,mN]);first|done|rfl|(simp only [lDr,lTk];rfl)) ?_;(with_reducible refine (loading_Alone.calls k a0_0 a0_1 a0_2 a0_3 a0_4 a0_5 a0_6 a0_7 _ _ t474 t483 t484 _ ?side1 ?side2 A11.out).mono ?_);(case side1=>repeat (first|exact (Kd.R_reads' HO476.out).2.2|(with_reducible first|apply kA|apply kN|apply kD)));(case side2=>exact (Kd.R_reads' HO476.out).2.1);rintro e w25 ⟨rfl,hb⟩;refine ⟨_,rfl, ?_⟩;have n0_:=am (Kd.R_below (by (with_reducible repeat (first|apply rA|apply rN|apply rD));exact HO476.out) hb);have n1_:=am (Kd.S_below (by (with_reducible repeat (first|apply Kd.S_alloc|apply Kd.S_drewN|apply Kd.S_drew));exact HO479.out) hb);have n2_:=am (blk_below (g:=gb472) (o:=.cells #[.string a0_0,.int .i64 a0_1,.int .i64 a0_2,.int .i64 a0_3,.int .i64 a0_4,.int .i64 a0_5,.int .i64 a0_6,.int .i64 a0_7] 24 (0,0)) (by (with_reducible repeat (first|apply bN|apply bD|apply bA));exact BK472.out) hb);have n3_:=am (below_step (by repeat (first|(with_reducible first|exact HB.out|apply lA|apply lN|apply lD|refine lS ?_ GE472.out)|exact HB.out)) hb);clear HO476;clear HO479;clear BK472;clear HB;have HO476:=n0_;have HO479:=n1_;have BK472:=n2_;have HB:=n3_;clear n0_ n1_ n2_ n3_;(try clear hb);(try clear hb2);(try clear hk);(try clear hi);have hcz26_0 : w25.cell? ⟨gb472,0,none⟩ = some (.string a0_0):=(blk_cell BK472.out 0).trans rfl;have hcz26_1 : w25.cell? ⟨gb472,1,none⟩ = some (.int .i64 a0_1):=(blk_cell BK472.out 1).trans rfl;have hcz26_2 : w25.cell? ⟨gb472,2,none⟩ = some (.int .i64 a0_2):=(blk_cell BK472.out 2).trans rfl;have hcz26_3 : w25.cell? ⟨gb472,3,none⟩ = some (.int .i64 a0_3):=(blk_cell BK472.out 3).trans rfl;have hcz26_4 : w25.cell? ⟨gb472,4,none⟩ = some (.int .i64 a0_4):=(blk_cell BK472.out 4).trans rfl;have hcz26_5 : w25.cell? ⟨gb472,5,none⟩ = some (.int .i64 a0_5):=(blk_cell BK472.out 5).trans rfl;have hcz26_6 : w25.cell? ⟨gb472,6,none⟩ = some (.int .i64 a0_6):=(blk_cell BK472.out 6).trans rfl;have hcz26_7 : w25.cell? ⟨gb472,7,none⟩ = some (.int .i64 a0_7):=(blk_cell BK472.out 7).trans rfl;have hfz26_0:=blk_frozen BK472.out 0;have hfz26_1:=blk_frozen BK472.out 1;have hfz26_2:=blk_frozen BK472.out 2;have hfz26_3:=blk_frozen BK472.out 3;have hfz26_4:=blk_frozen BK472.out 4;have hfz26_5:=blk_frozen BK472.out 5;have hfz26_6:=blk_frozen BK472.out 6;have hfz26_7:=blk_frozen BK472.out 7)|((with_reducible refine gate_callee (f:=15) rfl ?_);refine goesL_ (some 43) rfl rfl Try.func15 (by kernel_rfl) rfl #[.agg #[.string a0_0,.int .i64 a0_1,.int .i64 a0_2,.int .i64 a0_3,.int .i64 a0_4,.int .i64 a0_5,.int .i64 a0_6,.int .i64 a0_7],.slice Ao20 t474.length co20] rfl (by (try simp only [mT,mC,mN]);first|done|rfl|(simp only [lDr,lTk];rfl)) ?_;(with_reducible refine (loading_Check.calls a0_0 a0_1 a0_2 a0_3 a0_4 a0_5 a0_6 a0_7 _ _ t474 t485 _ ?side1 ?side2 A12.out).mono ?_);(case side1=>repeat (first|exact (Kd.R_reads' HO476.out).2.2|(with_reducible first|apply kA|apply kN|apply kD)));(case side2=>exact (Kd.R_reads' HO476.out).2.1);rintro e w27 ⟨rfl,hb⟩;refine ⟨_,rfl, ?_⟩;have n0_:=am (Kd.R_below (by (with_reducible repeat (first|apply rA|apply rN|apply rD));exact HO476.out) hb);have n1_:=am (Kd.S_below (by (with_reducible repeat (first|apply Kd.S_alloc|apply Kd.S_drewN|apply Kd.S_drew));exact HO479.out) hb);have n2_:=am (blk_below (g:=gb472) (o:=.cells #[.string a0_0,.int .i64 a0_1,.int .i64 a0_2,.int .i64 a0_3,.int .i64 a0_4,.int .i64 a0_5,.int .i64 a0_6,.int .i64 a0_7] 24 (0,0)) (by (with_reducible repeat (first|apply bN|apply bD|apply bA));exact BK472.out) hb);have n3_:=am (below_step (by repeat (first|(with_reducible first|exact HB.out|apply lA|apply lN|apply lD|refine lS ?_ GE472.out)|exact HB.out)) hb);clear HO476;clear HO479;clear BK472;clear HB;have HO476:=n0_;have HO479:=n1_;have BK472:=n2_;have HB:=n3_;clear n0_ n1_ n2_ n3_;(try clear hb);(try clear hb2);(try clear hk);(try clear hi)))
     (try simp only [Act.put,sA,s0,sS])
     go_cut [108] (fun v108 wc=>∃ (kq : Nat) (x108_14 : Bool),v108 = .bool x108_14 ∧ Aside0 (gangsawlaw54_LoadingRight.j0 kq t474 t477 x108_14 a0_0 a0_1 a0_2 a0_3 a0_4 a0_5 a0_6 a0_7 = some r) ∧ Aside0 (kq ≤ k) ∧ Aside0 (Kd.R k64 64 wc w.heap.size (fun _=>True) (.slice Ao20 t474.length co20) t474) ∧ Aside0 (Kd.S k54 54 wc w.heap.size (fun _=>True) v478 t477) ∧ Aside0 (wc.heap[gb472]? = some (.cells #[.string a0_0,.int .i64 a0_1,.int .i64 a0_2,.int .i64 a0_3,.int .i64 a0_4,.int .i64 a0_5,.int .i64 a0_6,.int .i64 a0_7] 24 (0,0))) ∧ Aside0 (Below w.heap.size w wc))
     case first =>
      have H:=HC15.out;clear HC15;replace H:=Option.bind_eq_some_iff.mp H;obtain ⟨t487,A280,H⟩ := H;replace H : (if t487 = 0 then (if t482 = 0 then (if t481 > (t477.length : Int) then (gangsawlaw54_LoadingRight.j0 k t474 t477 true a0_0 a0_1 a0_2 a0_3 a0_4 a0_5 a0_6 a0_7) else (if t481 < 0 then (gangsawlaw54_LoadingRight.j0 k t474 t477 true a0_0 a0_1 a0_2 a0_3 a0_4 a0_5 a0_6 a0_7) else (if t481 = 0 then (gangsawlaw54_LoadingRight.j0 k t474 t477 (decide ((t474.length : Int) > 0)) a0_0 a0_1 a0_2 a0_3 a0_4 a0_5 a0_6 a0_7) else (gangsawlaw54_LoadingRight.j0 k t474 t477 false a0_0 a0_1 a0_2 a0_3 a0_4 a0_5 a0_6 a0_7)))) else (if t482 = 7 then (gangsawlaw54_LoadingRight.j0 k t474 t477 false a0_0 a0_1 a0_2 a0_3 a0_4 a0_5 a0_6 a0_7) else (gangsawlaw54_LoadingRight.j0 k t474 t477 true a0_0 a0_1 a0_2 a0_3 a0_4 a0_5 a0_6 a0_7))) else (gangsawlaw54_LoadingRight.j0 k t474 t477 true a0_0 a0_1 a0_2 a0_3 a0_4 a0_5 a0_6 a0_7)) = some r:=H;have A28:=am A280;clear A280;by_cases c29 : t487 = 0
      ·rw [if_pos c29] at H;have c29b0 : (t487 == 0) = true:=beq_iff_eq.mpr c29;have c29b1 : (t487 != 0) = false:=bne_eq_false_iff_eq.mpr c29;clear c29;(first|rw [c29b0]|(simp only [i64_w,i32_w];rw [c29b0])|skip)
       by_cases c30 : t482 = 0
       ·rw [if_pos c30] at H;have c30b0 : (t482 == 0) = true:=beq_iff_eq.mpr c30;have c30b1 : (t482 != 0) = false:=bne_eq_false_iff_eq.mpr c30;clear c30;by_cases c31 : t481 > (t477.length : Int)
        ·rw [if_pos c31] at H;have c31b0 : decide ((t477.length : Int) < t481) = true:=decide_eq_true c31;clear c31;have H':=am H;clear H;have hcz32_0 : w27.cell? ⟨gb472,0,none⟩ = some (.string a0_0):=(blk_cell BK472.out 0).trans rfl;have hcz32_1 : w27.cell? ⟨gb472,1,none⟩ = some (.int .i64 a0_1):=(blk_cell BK472.out 1).trans rfl;have hcz32_2 : w27.cell? ⟨gb472,2,none⟩ = some (.int .i64 a0_2):=(blk_cell BK472.out 2).trans rfl;have hcz32_3 : w27.cell? ⟨gb472,3,none⟩ = some (.int .i64 a0_3):=(blk_cell BK472.out 3).trans rfl;have hcz32_4 : w27.cell? ⟨gb472,4,none⟩ = some (.int .i64 a0_4):=(blk_cell BK472.out 4).trans rfl;have hcz32_5 : w27.cell? ⟨gb472,5,none⟩ = some (.int .i64 a0_5):=(blk_cell BK472.out 5).trans rfl;have hcz32_6 : w27.cell? ⟨gb472,6,none⟩ = some (.int .i64 a0_6):=(blk_cell BK472.out 6).trans rfl;have hcz32_7 : w27.cell? ⟨gb472,7,none⟩ = some (.int .i64 a0_7):=(blk_cell BK472.out 7).trans rfl;have hfz32_0:=blk_frozen BK472.out 0;have hfz32_1:=blk_frozen BK472.out 1;have hfz32_2:=blk_frozen BK472.out 2;have hfz32_3:=blk_frozen BK472.out 3;have hfz32_4:=blk_frozen BK472.out 4;have hfz32_5:=blk_frozen BK472.out 5;have hfz32_6:=blk_frozen BK472.out 6;have hfz32_7:=blk_frozen BK472.out 7;obtain ⟨Ao33,co33,eo33⟩ := Kd.S_slice HO479.out;subst eo33
         go_wp2_with (first|((with_reducible refine gate_callee (f:=23) rfl ?_);refine goesL_ (some 76) rfl rfl Try.func23 (by kernel_rfl) rfl #[.agg #[.string a0_0,.int .i64 a0_1,.int .i64 a0_2,.int .i64 a0_3,.int .i64 a0_4,.int .i64 a0_5,.int .i64 a0_6,.int .i64 a0_7],.slice Ao20 t474.length co20,.slice Ao33 t477.length co33] rfl (by (try simp only [mT,mC,mN]);first|done|rfl|(simp only [lDr,lTk];rfl)) ?_;(with_reducible refine (loading_Verify.calls a0_0 a0_1 a0_2 a0_3 a0_4 a0_5 a0_6 a0_7 _ _ t474 _ _ t477 t487 _ ?side1 ?side2 ?side3 ?side4 A28.out).mono ?_);(case side1=>repeat (first|exact (Kd.R_reads' HO476.out).2.2|(with_reducible first|apply kA|apply kN|apply kD)));(case side2=>exact (Kd.R_reads' HO476.out).2.1);(case side3=>repeat (first|exact (Kd.S_reads' HO479.out).2.2|(with_reducible first|apply kA|apply kN|apply kD)));(case side4=>exact (Kd.S_reads' HO479.out).2.1);rintro e w34 ⟨rfl,hb⟩;refine ⟨_,rfl, ?_⟩;have n0_:=am (Kd.R_below (by (with_reducible repeat (first|apply rA|apply rN|apply rD));exact HO476.out) hb);have n1_:=am (Kd.S_below (by (with_reducible repeat (first|apply Kd.S_alloc|apply Kd.S_drewN|apply Kd.S_drew));exact HO479.out) hb);have n2_:=am (blk_below (g:=gb472) (o:=.cells #[.string a0_0,.int .i64 a0_1,.int .i64 a0_2,.int .i64 a0_3,.int .i64 a0_4,.int .i64 a0_5,.int .i64 a0_6,.int .i64 a0_7] 24 (0,0)) (by (with_reducible repeat (first|apply bN|apply bD|apply bA));exact BK472.out) hb);have n3_:=am (below_step (by repeat (first|(with_reducible first|exact HB.out|apply lA|apply lN|apply lD|refine lS ?_ GE472.out)|exact HB.out)) hb);clear HO476;clear HO479;clear BK472;clear HB;have HO476:=n0_;have HO479:=n1_;have BK472:=n2_;have HB:=n3_;clear n0_ n1_ n2_ n3_;(try clear hb);(try clear hb2);(try clear hk);(try clear hi)))
         go_meet
         case rel=>exact ⟨_,(true),(by first|rfl|(simp;done)|(simp [*];done)),H',⟨by first|omega|exact Nat.le_refl _⟩,⟨by (with_reducible repeat (first|apply rA|apply rN|apply rD));exact HO476.out⟩,⟨by (with_reducible repeat (first|apply Kd.S_alloc|apply Kd.S_drewN|apply Kd.S_drew));exact HO479.out⟩,⟨by (with_reducible repeat (first|apply bN|apply bD|apply bA));exact BK472.out⟩,⟨by repeat (first|(with_reducible first|exact HB.out|apply lA|apply lN|apply lD|refine lS ?_ GE472.out)|exact HB.out)⟩⟩
        ·rw [if_neg c31] at H;have c31b0 : decide ((t477.length : Int) < t481) = false:=decide_eq_false c31;clear c31;by_cases c35 : t481 < 0
         ·rw [if_pos c35] at H;have c35b0 : decide (t481 < 0) = true:=decide_eq_true c35;clear c35;have H':=am H;clear H;have hcz36_0 : w27.cell? ⟨gb472,0,none⟩ = some (.string a0_0):=(blk_cell BK472.out 0).trans rfl;have hcz36_1 : w27.cell? ⟨gb472,1,none⟩ = some (.int .i64 a0_1):=(blk_cell BK472.out 1).trans rfl;have hcz36_2 : w27.cell? ⟨gb472,2,none⟩ = some (.int .i64 a0_2):=(blk_cell BK472.out 2).trans rfl;have hcz36_3 : w27.cell? ⟨gb472,3,none⟩ = some (.int .i64 a0_3):=(blk_cell BK472.out 3).trans rfl;have hcz36_4 : w27.cell? ⟨gb472,4,none⟩ = some (.int .i64 a0_4):=(blk_cell BK472.out 4).trans rfl;have hcz36_5 : w27.cell? ⟨gb472,5,none⟩ = some (.int .i64 a0_5):=(blk_cell BK472.out 5).trans rfl;have hcz36_6 : w27.cell? ⟨gb472,6,none⟩ = some (.int .i64 a0_6):=(blk_cell BK472.out 6).trans rfl;have hcz36_7 : w27.cell? ⟨gb472,7,none⟩ = some (.int .i64 a0_7):=(blk_cell BK472.out 7).trans rfl;have hfz36_0:=blk_frozen BK472.out 0;have hfz36_1:=blk_frozen BK472.out 1;have hfz36_2:=blk_frozen BK472.out 2;have hfz36_3:=blk_frozen BK472.out 3;have hfz36_4:=blk_frozen BK472.out 4;have hfz36_5:=blk_frozen BK472.out 5;have hfz36_6:=blk_frozen BK472.out 6;have hfz36_7:=blk_frozen BK472.out 7;obtain ⟨Ao37,co37,eo37⟩ := Kd.S_slice HO479.out;subst eo37
          go_wp2_with (first|((with_reducible refine gate_callee (f:=23) rfl ?_);refine goesL_ (some 76) rfl rfl Try.func23 (by kernel_rfl) rfl #[.agg #[.string a0_0,.int .i64 a0_1,.int .i64 a0_2,.int .i64 a0_3,.int .i64 a0_4,.int .i64 a0_5,.int .i64 a0_6,.int .i64 a0_7],.slice Ao20 t474.length co20,.slice Ao37 t477.length co37] rfl (by (try simp only [mT,mC,mN]);first|done|rfl|(simp only [lDr,lTk];rfl)) ?_;(with_reducible refine (loading_Verify.calls a0_0 a0_1 a0_2 a0_3 a0_4 a0_5 a0_6 a0_7 _ _ t474 _ _ t477 t487 _ ?side1 ?side2 ?side3 ?side4 A28.out).mono ?_);(case side1=>repeat (first|exact (Kd.R_reads' HO476.out).2.2|(with_reducible first|apply kA|apply kN|apply kD)));(case side2=>exact (Kd.R_reads' HO476.out).2.1);(case side3=>repeat (first|exact (Kd.S_reads' HO479.out).2.2|(with_reducible first|apply kA|apply kN|apply kD)));(case side4=>exact (Kd.S_reads' HO479.out).2.1);rintro e w38 ⟨rfl,hb⟩;refine ⟨_,rfl, ?_⟩;have n0_:=am (Kd.R_below (by (with_reducible repeat (first|apply rA|apply rN|apply rD));exact HO476.out) hb);have n1_:=am (Kd.S_below (by (with_reducible repeat (first|apply Kd.S_alloc|apply Kd.S_drewN|apply Kd.S_drew));exact HO479.out) hb);have n2_:=am (blk_below (g:=gb472) (o:=.cells #[.string a0_0,.int .i64 a0_1,.int .i64 a0_2,.int .i64 a0_3,.int .i64 a0_4,.int .i64 a0_5,.int .i64 a0_6,.int .i64 a0_7] 24 (0,0)) (by (with_reducible repeat (first|apply bN|apply bD|apply bA));exact BK472.out) hb);have n3_:=am (below_step (by repeat (first|(with_reducible first|exact HB.out|apply lA|apply lN|apply lD|refine lS ?_ GE472.out)|exact HB.out)) hb);clear HO476;clear HO479;clear BK472;clear HB;have HO476:=n0_;have HO479:=n1_;have BK472:=n2_;have HB:=n3_;clear n0_ n1_ n2_ n3_;(try clear hb);(try clear hb2);(try clear hk);(try clear hi)))
          go_meet
          case rel=>exact ⟨_,(true),(by first|rfl|(simp;done)|(simp [*];done)),H',⟨by first|omega|exact Nat.le_refl _⟩,⟨by (with_reducible repeat (first|apply rA|apply rN|apply rD));exact HO476.out⟩,⟨by (with_reducible repeat (first|apply Kd.S_alloc|apply Kd.S_drewN|apply Kd.S_drew));exact HO479.out⟩,⟨by (with_reducible repeat (first|apply bN|apply bD|apply bA));exact BK472.out⟩,⟨by repeat (first|(with_reducible first|exact HB.out|apply lA|apply lN|apply lD|refine lS ?_ GE472.out)|exact HB.out)⟩⟩
         ·rw [if_neg c35] at H;have c35b0 : decide (t481 < 0) = false:=decide_eq_false c35;clear c35;by_cases c39 : t481 = 0
          ·rw [if_pos c39] at H;have c39b0 : (t481 == 0) = true:=beq_iff_eq.mpr c39;have c39b1 : (t481 != 0) = false:=bne_eq_false_iff_eq.mpr c39;clear c39;have H':=am H;clear H;have hcz40_0 : w27.cell? ⟨gb472,0,none⟩ = some (.string a0_0):=(blk_cell BK472.out 0).trans rfl;have hcz40_1 : w27.cell? ⟨gb472,1,none⟩ = some (.int .i64 a0_1):=(blk_cell BK472.out 1).trans rfl;have hcz40_2 : w27.cell? ⟨gb472,2,none⟩ = some (.int .i64 a0_2):=(blk_cell BK472.out 2).trans rfl;have hcz40_3 : w27.cell? ⟨gb472,3,none⟩ = some (.int .i64 a0_3):=(blk_cell BK472.out 3).trans rfl;have hcz40_4 : w27.cell? ⟨gb472,4,none⟩ = some (.int .i64 a0_4):=(blk_cell BK472.out 4).trans rfl;have hcz40_5 : w27.cell? ⟨gb472,5,none⟩ = some (.int .i64 a0_5):=(blk_cell BK472.out 5).trans rfl;have hcz40_6 : w27.cell? ⟨gb472,6,none⟩ = some (.int .i64 a0_6):=(blk_cell BK472.out 6).trans rfl;have hcz40_7 : w27.cell? ⟨gb472,7,none⟩ = some (.int .i64 a0_7):=(blk_cell BK472.out 7).trans rfl;have hfz40_0:=blk_frozen BK472.out 0;have hfz40_1:=blk_frozen BK472.out 1;have hfz40_2:=blk_frozen BK472.out 2;have hfz40_3:=blk_frozen BK472.out 3;have hfz40_4:=blk_frozen BK472.out 4;have hfz40_5:=blk_frozen BK472.out 5;have hfz40_6:=blk_frozen BK472.out 6;have hfz40_7:=blk_frozen BK472.out 7;obtain ⟨Ao41,co41,eo41⟩ := Kd.S_slice HO479.out;subst eo41
           go_wp2_with (first|((with_reducible refine gate_callee (f:=23) rfl ?_);refine goesL_ (some 76) rfl rfl Try.func23 (by kernel_rfl) rfl #[.agg #[.string a0_0,.int .i64 a0_1,.int .i64 a0_2,.int .i64 a0_3,.int .i64 a0_4,.int .i64 a0_5,.int .i64 a0_6,.int .i64 a0_7],.slice Ao20 t474.length co20,.slice Ao41 t477.length co41] rfl (by (try simp only [mT,mC,mN]);first|done|rfl|(simp only [lDr,lTk];rfl)) ?_;(with_reducible refine (loading_Verify.calls a0_0 a0_1 a0_2 a0_3 a0_4 a0_5 a0_6 a0_7 _ _ t474 _ _ t477 t487 _ ?side1 ?side2 ?side3 ?side4 A28.out).mono ?_);(case side1=>repeat (first|exact (Kd.R_reads' HO476.out).2.2|(with_reducible first|apply kA|apply kN|apply kD)));(case side2=>exact (Kd.R_reads' HO476.out).2.1);(case side3=>repeat (first|exact (Kd.S_reads' HO479.out).2.2|(with_reducible first|apply kA|apply kN|apply kD)));(case side4=>exact (Kd.S_reads' HO479.out).2.1);rintro e w42 ⟨rfl,hb⟩;refine ⟨_,rfl, ?_⟩;have n0_:=am (Kd.R_below (by (with_reducible repeat (first|apply rA|apply rN|apply rD));exact HO476.out) hb);have n1_:=am (Kd.S_below (by (with_reducible repeat (first|apply Kd.S_alloc|apply Kd.S_drewN|apply Kd.S_drew));exact HO479.out) hb);have n2_:=am (blk_below (g:=gb472) (o:=.cells #[.string a0_0,.int .i64 a0_1,.int .i64 a0_2,.int .i64 a0_3,.int .i64 a0_4,.int .i64 a0_5,.int .i64 a0_6,.int .i64 a0_7] 24 (0,0)) (by (with_reducible repeat (first|apply bN|apply bD|apply bA));exact BK472.out) hb);have n3_:=am (below_step (by repeat (first|(with_reducible first|exact HB.out|apply lA|apply lN|apply lD|refine lS ?_ GE472.out)|exact HB.out)) hb);clear HO476;clear HO479;clear BK472;clear HB;have HO476:=n0_;have HO479:=n1_;have BK472:=n2_;have HB:=n3_;clear n0_ n1_ n2_ n3_;(try clear hb);(try clear hb2);(try clear hk);(try clear hi)))
           go_meet
           case rel=>exact ⟨_,(decide ((t474.length : Int) > 0)),(by first|rfl|(simp;done)|(simp [*];done)),H',⟨by first|omega|exact Nat.le_refl _⟩,⟨by (with_reducible repeat (first|apply rA|apply rN|apply rD));exact HO476.out⟩,⟨by (with_reducible repeat (first|apply Kd.S_alloc|apply Kd.S_drewN|apply Kd.S_drew));exact HO479.out⟩,⟨by (with_reducible repeat (first|apply bN|apply bD|apply bA));exact BK472.out⟩,⟨by repeat (first|(with_reducible first|exact HB.out|apply lA|apply lN|apply lD|refine lS ?_ GE472.out)|exact HB.out)⟩⟩
          ·rw [if_neg c39] at H;have c39b0 : (t481 == 0) = false:=beq_eq_false_iff_ne.mpr c39;have c39b1 : (t481 != 0) = true:=bne_iff_ne.mpr c39;have H':=am H;clear H;have hcz43_0 : w27.cell? ⟨gb472,0,none⟩ = some (.string a0_0):=(blk_cell BK472.out 0).trans rfl;have hcz43_1 : w27.cell? ⟨gb472,1,none⟩ = some (.int .i64 a0_1):=(blk_cell BK472.out 1).trans rfl;have hcz43_2 : w27.cell? ⟨gb472,2,none⟩ = some (.int .i64 a0_2):=(blk_cell BK472.out 2).trans rfl;have hcz43_3 : w27.cell? ⟨gb472,3,none⟩ = some (.int .i64 a0_3):=(blk_cell BK472.out 3).trans rfl;have hcz43_4 : w27.cell? ⟨gb472,4,none⟩ = some (.int .i64 a0_4):=(blk_cell BK472.out 4).trans rfl;have hcz43_5 : w27.cell? ⟨gb472,5,none⟩ = some (.int .i64 a0_5):=(blk_cell BK472.out 5).trans rfl;have hcz43_6 : w27.cell? ⟨gb472,6,none⟩ = some (.int .i64 a0_6):=(blk_cell BK472.out 6).trans rfl;have hcz43_7 : w27.cell? ⟨gb472,7,none⟩ = some (.int .i64 a0_7):=(blk_cell BK472.out 7).trans rfl;have hfz43_0:=blk_frozen BK472.out 0;have hfz43_1:=blk_frozen BK472.out 1;have hfz43_2:=blk_frozen BK472.out 2;have hfz43_3:=blk_frozen BK472.out 3;have hfz43_4:=blk_frozen BK472.out 4;have hfz43_5:=blk_frozen BK472.out 5;have hfz43_6:=blk_frozen BK472.out 6;have hfz43_7:=blk_frozen BK472.out 7;obtain ⟨Ao44,co44,eo44⟩ := Kd.S_slice HO479.out;subst eo44
           go_wp2_with (first|((with_reducible refine gate_callee (f:=23) rfl ?_);refine goesL_ (some 76) rfl rfl Try.func23 (by kernel_rfl) rfl #[.agg #[.string a0_0,.int .i64 a0_1,.int .i64 a0_2,.int .i64 a0_3,.int .i64 a0_4,.int .i64 a0_5,.int .i64 a0_6,.int .i64 a0_7],.slice Ao20 t474.length co20,.slice Ao44 t477.length co44] rfl (by (try simp only [mT,mC,mN]);first|done|rfl|(simp only [lDr,lTk];rfl)) ?_;(with_reducible refine (loading_Verify.calls a0_0 a0_1 a0_2 a0_3 a0_4 a0_5 a0_6 a0_7 _ _ t474 _ _ t477 t487 _ ?side1 ?side2 ?side3 ?side4 A28.out).mono ?_);(case side1=>repeat (first|exact (Kd.R_reads' HO476.out).2.2|(with_reducible first|apply kA|apply kN|apply kD)));(case side2=>exact (Kd.R_reads' HO476.out).2.1);(case side3=>repeat (first|exact (Kd.S_reads' HO479.out).2.2|(with_reducible first|apply kA|apply kN|apply kD)));(case side4=>exact (Kd.S_reads' HO479.out).2.1);rintro e w45 ⟨rfl,hb⟩;refine ⟨_,rfl, ?_⟩;have n0_:=am (Kd.R_below (by (with_reducible repeat (first|apply rA|apply rN|apply rD));exact HO476.out) hb);have n1_:=am (Kd.S_below (by (with_reducible repeat (first|apply Kd.S_alloc|apply Kd.S_drewN|apply Kd.S_drew));exact HO479.out) hb);have n2_:=am (blk_below (g:=gb472) (o:=.cells #[.string a0_0,.int .i64 a0_1,.int .i64 a0_2,.int .i64 a0_3,.int .i64 a0_4,.int .i64 a0_5,.int .i64 a0_6,.int .i64 a0_7] 24 (0,0)) (by (with_reducible repeat (first|apply bN|apply bD|apply bA));exact BK472.out) hb);have n3_:=am (below_step (by repeat (first|(with_reducible first|exact HB.out|apply lA|apply lN|apply lD|refine lS ?_ GE472.out)|exact HB.out)) hb);clear HO476;clear HO479;clear BK472;clear HB;have HO476:=n0_;have HO479:=n1_;have BK472:=n2_;have HB:=n3_;clear n0_ n1_ n2_ n3_;(try clear hb);(try clear hb2);(try clear hk);(try clear hi)))
           go_meet
           case rel=>exact ⟨_,(false),(by first|rfl|(simp;done)|(simp [*];done)),H',⟨by first|omega|exact Nat.le_refl _⟩,⟨by (with_reducible repeat (first|apply rA|apply rN|apply rD));exact HO476.out⟩,⟨by (with_reducible repeat (first|apply Kd.S_alloc|apply Kd.S_drewN|apply Kd.S_drew));exact HO479.out⟩,⟨by (with_reducible repeat (first|apply bN|apply bD|apply bA));exact BK472.out⟩,⟨by repeat (first|(with_reducible first|exact HB.out|apply lA|apply lN|apply lD|refine lS ?_ GE472.out)|exact HB.out)⟩⟩
       ·rw [if_neg c30] at H;have c30b0 : (t482 == 0) = false:=beq_eq_false_iff_ne.mpr c30;have c30b1 : (t482 != 0) = true:=bne_iff_ne.mpr c30;by_cases c46 : t482 = 7
        ·rw [if_pos c46] at H;have c46b0 : (t482 == 7) = true:=beq_iff_eq.mpr c46;have c46b1 : (t482 != 7) = false:=bne_eq_false_iff_eq.mpr c46;clear c46;have H':=am H;clear H;have hcz47_0 : w27.cell? ⟨gb472,0,none⟩ = some (.string a0_0):=(blk_cell BK472.out 0).trans rfl;have hcz47_1 : w27.cell? ⟨gb472,1,none⟩ = some (.int .i64 a0_1):=(blk_cell BK472.out 1).trans rfl;have hcz47_2 : w27.cell? ⟨gb472,2,none⟩ = some (.int .i64 a0_2):=(blk_cell BK472.out 2).trans rfl;have hcz47_3 : w27.cell? ⟨gb472,3,none⟩ = some (.int .i64 a0_3):=(blk_cell BK472.out 3).trans rfl;have hcz47_4 : w27.cell? ⟨gb472,4,none⟩ = some (.int .i64 a0_4):=(blk_cell BK472.out 4).trans rfl;have hcz47_5 : w27.cell? ⟨gb472,5,none⟩ = some (.int .i64 a0_5):=(blk_cell BK472.out 5).trans rfl;have hcz47_6 : w27.cell? ⟨gb472,6,none⟩ = some (.int .i64 a0_6):=(blk_cell BK472.out 6).trans rfl;have hcz47_7 : w27.cell? ⟨gb472,7,none⟩ = some (.int .i64 a0_7):=(blk_cell BK472.out 7).trans rfl;have hfz47_0:=blk_frozen BK472.out 0;have hfz47_1:=blk_frozen BK472.out 1;have hfz47_2:=blk_frozen BK472.out 2;have hfz47_3:=blk_frozen BK472.out 3;have hfz47_4:=blk_frozen BK472.out 4;have hfz47_5:=blk_frozen BK472.out 5;have hfz47_6:=blk_frozen BK472.out 6;have hfz47_7:=blk_frozen BK472.out 7;obtain ⟨Ao48,co48,eo48⟩ := Kd.S_slice HO479.out;subst eo48
         go_wp2_with (first|((with_reducible refine gate_callee (f:=23) rfl ?_);refine goesL_ (some 76) rfl rfl Try.func23 (by kernel_rfl) rfl #[.agg #[.string a0_0,.int .i64 a0_1,.int .i64 a0_2,.int .i64 a0_3,.int .i64 a0_4,.int .i64 a0_5,.int .i64 a0_6,.int .i64 a0_7],.slice Ao20 t474.length co20,.slice Ao48 t477.length co48] rfl (by (try simp only [mT,mC,mN]);first|done|rfl|(simp only [lDr,lTk];rfl)) ?_;(with_reducible refine (loading_Verify.calls a0_0 a0_1 a0_2 a0_3 a0_4 a0_5 a0_6 a0_7 _ _ t474 _ _ t477 t487 _ ?side1 ?side2 ?side3 ?side4 A28.out).mono ?_);(case side1=>repeat (first|exact (Kd.R_reads' HO476.out).2.2|(with_reducible first|apply kA|apply kN|apply kD)));(case side2=>exact (Kd.R_reads' HO476.out).2.1);(case side3=>repeat (first|exact (Kd.S_reads' HO479.out).2.2|(with_reducible first|apply kA|apply kN|apply kD)));(case side4=>exact (Kd.S_reads' HO479.out).2.1);rintro e w49 ⟨rfl,hb⟩;refine ⟨_,rfl, ?_⟩;have n0_:=am (Kd.R_below (by (with_reducible repeat (first|apply rA|apply rN|apply rD));exact HO476.out) hb);have n1_:=am (Kd.S_below (by (with_reducible repeat (first|apply Kd.S_alloc|apply Kd.S_drewN|apply Kd.S_drew));exact HO479.out) hb);have n2_:=am (blk_below (g:=gb472) (o:=.cells #[.string a0_0,.int .i64 a0_1,.int .i64 a0_2,.int .i64 a0_3,.int .i64 a0_4,.int .i64 a0_5,.int .i64 a0_6,.int .i64 a0_7] 24 (0,0)) (by (with_reducible repeat (first|apply bN|apply bD|apply bA));exact BK472.out) hb);have n3_:=am (below_step (by repeat (first|(with_reducible first|exact HB.out|apply lA|apply lN|apply lD|refine lS ?_ GE472.out)|exact HB.out)) hb);clear HO476;clear HO479;clear BK472;clear HB;have HO476:=n0_;have HO479:=n1_;have BK472:=n2_;have HB:=n3_;clear n0_ n1_ n2_ n3_;(try clear hb);(try clear hb2);(try clear hk);(try clear hi)))
         go_meet
         case rel=>exact ⟨_,(false),(by first|rfl|(simp;done)|(simp [*];done)),H',⟨by first|omega|exact Nat.le_refl _⟩,⟨by (with_reducible repeat (first|apply rA|apply rN|apply rD));exact HO476.out⟩,⟨by (with_reducible repeat (first|apply Kd.S_alloc|apply Kd.S_drewN|apply Kd.S_drew));exact HO479.out⟩,⟨by (with_reducible repeat (first|apply bN|apply bD|apply bA));exact BK472.out⟩,⟨by repeat (first|(with_reducible first|exact HB.out|apply lA|apply lN|apply lD|refine lS ?_ GE472.out)|exact HB.out)⟩⟩
        ·rw [if_neg c46] at H;have c46b0 : (t482 == 7) = false:=beq_eq_false_iff_ne.mpr c46;have c46b1 : (t482 != 7) = true:=bne_iff_ne.mpr c46;have H':=am H;clear H;have hcz50_0 : w27.cell? ⟨gb472,0,none⟩ = some (.string a0_0):=(blk_cell BK472.out 0).trans rfl;have hcz50_1 : w27.cell? ⟨gb472,1,none⟩ = some (.int .i64 a0_1):=(blk_cell BK472.out 1).trans rfl;have hcz50_2 : w27.cell? ⟨gb472,2,none⟩ = some (.int .i64 a0_2):=(blk_cell BK472.out 2).trans rfl;have hcz50_3 : w27.cell? ⟨gb472,3,none⟩ = some (.int .i64 a0_3):=(blk_cell BK472.out 3).trans rfl;have hcz50_4 : w27.cell? ⟨gb472,4,none⟩ = some (.int .i64 a0_4):=(blk_cell BK472.out 4).trans rfl;have hcz50_5 : w27.cell? ⟨gb472,5,none⟩ = some (.int .i64 a0_5):=(blk_cell BK472.out 5).trans rfl;have hcz50_6 : w27.cell? ⟨gb472,6,none⟩ = some (.int .i64 a0_6):=(blk_cell BK472.out 6).trans rfl;have hcz50_7 : w27.cell? ⟨gb472,7,none⟩ = some (.int .i64 a0_7):=(blk_cell BK472.out 7).trans rfl;have hfz50_0:=blk_frozen BK472.out 0;have hfz50_1:=blk_frozen BK472.out 1;have hfz50_2:=blk_frozen BK472.out 2;have hfz50_3:=blk_frozen BK472.out 3;have hfz50_4:=blk_frozen BK472.out 4;have hfz50_5:=blk_frozen BK472.out 5;have hfz50_6:=blk_frozen BK472.out 6;have hfz50_7:=blk_frozen BK472.out 7;obtain ⟨Ao51,co51,eo51⟩ := Kd.S_slice HO479.out;subst eo51
         go_wp2_with (first|((with_reducible refine gate_callee (f:=23) rfl ?_);refine goesL_ (some 76) rfl rfl Try.func23 (by kernel_rfl) rfl #[.agg #[.string a0_0,.int .i64 a0_1,.int .i64 a0_2,.int .i64 a0_3,.int .i64 a0_4,.int .i64 a0_5,.int .i64 a0_6,.int .i64 a0_7],.slice Ao20 t474.length co20,.slice Ao51 t477.length co51] rfl (by (try simp only [mT,mC,mN]);first|done|rfl|(simp only [lDr,lTk];rfl)) ?_;(with_reducible refine (loading_Verify.calls a0_0 a0_1 a0_2 a0_3 a0_4 a0_5 a0_6 a0_7 _ _ t474 _ _ t477 t487 _ ?side1 ?side2 ?side3 ?side4 A28.out).mono ?_);(case side1=>repeat (first|exact (Kd.R_reads' HO476.out).2.2|(with_reducible first|apply kA|apply kN|apply kD)));(case side2=>exact (Kd.R_reads' HO476.out).2.1);(case side3=>repeat (first|exact (Kd.S_reads' HO479.out).2.2|(with_reducible first|apply kA|apply kN|apply kD)));(case side4=>exact (Kd.S_reads' HO479.out).2.1);rintro e w52 ⟨rfl,hb⟩;refine ⟨_,rfl, ?_⟩;have n0_:=am (Kd.R_below (by (with_reducible repeat (first|apply rA|apply rN|apply rD));exact HO476.out) hb);have n1_:=am (Kd.S_below (by (with_reducible repeat (first|apply Kd.S_alloc|apply Kd.S_drewN|apply Kd.S_drew));exact HO479.out) hb);have n2_:=am (blk_below (g:=gb472) (o:=.cells #[.string a0_0,.int .i64 a0_1,.int .i64 a0_2,.int .i64 a0_3,.int .i64 a0_4,.int .i64 a0_5,.int .i64 a0_6,.int .i64 a0_7] 24 (0,0)) (by (with_reducible repeat (first|apply bN|apply bD|apply bA));exact BK472.out) hb);have n3_:=am (below_step (by repeat (first|(with_reducible first|exact HB.out|apply lA|apply lN|apply lD|refine lS ?_ GE472.out)|exact HB.out)) hb);clear HO476;clear HO479;clear BK472;clear HB;have HO476:=n0_;have HO479:=n1_;have BK472:=n2_;have HB:=n3_;clear n0_ n1_ n2_ n3_;(try clear hb);(try clear hb2);(try clear hk);(try clear hi)))
         go_meet
         case rel=>exact ⟨_,(true),(by first|rfl|(simp;done)|(simp [*];done)),H',⟨by first|omega|exact Nat.le_refl _⟩,⟨by (with_reducible repeat (first|apply rA|apply rN|apply rD));exact HO476.out⟩,⟨by (with_reducible repeat (first|apply Kd.S_alloc|apply Kd.S_drewN|apply Kd.S_drew));exact HO479.out⟩,⟨by (with_reducible repeat (first|apply bN|apply bD|apply bA));exact BK472.out⟩,⟨by repeat (first|(with_reducible first|exact HB.out|apply lA|apply lN|apply lD|refine lS ?_ GE472.out)|exact HB.out)⟩⟩
      ·rw [if_neg c29] at H;have c29b0 : (t487 == 0) = false:=beq_eq_false_iff_ne.mpr c29;have c29b1 : (t487 != 0) = true:=bne_iff_ne.mpr c29;(first|rw [c29b0]|(simp only [i64_w,i32_w];rw [c29b0])|skip);have H':=am H;clear H;have hcz53_0 : w27.cell? ⟨gb472,0,none⟩ = some (.string a0_0):=(blk_cell BK472.out 0).trans rfl;have hcz53_1 : w27.cell? ⟨gb472,1,none⟩ = some (.int .i64 a0_1):=(blk_cell BK472.out 1).trans rfl;have hcz53_2 : w27.cell? ⟨gb472,2,none⟩ = some (.int .i64 a0_2):=(blk_cell BK472.out 2).trans rfl;have hcz53_3 : w27.cell? ⟨gb472,3,none⟩ = some (.int .i64 a0_3):=(blk_cell BK472.out 3).trans rfl;have hcz53_4 : w27.cell? ⟨gb472,4,none⟩ = some (.int .i64 a0_4):=(blk_cell BK472.out 4).trans rfl;have hcz53_5 : w27.cell? ⟨gb472,5,none⟩ = some (.int .i64 a0_5):=(blk_cell BK472.out 5).trans rfl;have hcz53_6 : w27.cell? ⟨gb472,6,none⟩ = some (.int .i64 a0_6):=(blk_cell BK472.out 6).trans rfl;have hcz53_7 : w27.cell? ⟨gb472,7,none⟩ = some (.int .i64 a0_7):=(blk_cell BK472.out 7).trans rfl;have hfz53_0:=blk_frozen BK472.out 0;have hfz53_1:=blk_frozen BK472.out 1;have hfz53_2:=blk_frozen BK472.out 2;have hfz53_3:=blk_frozen BK472.out 3;have hfz53_4:=blk_frozen BK472.out 4;have hfz53_5:=blk_frozen BK472.out 5;have hfz53_6:=blk_frozen BK472.out 6;have hfz53_7:=blk_frozen BK472.out 7;obtain ⟨Ao54,co54,eo54⟩ := Kd.S_slice HO479.out;subst eo54
       go_wp2_with (first|((with_reducible refine gate_callee (f:=23) rfl ?_);refine goesL_ (some 76) rfl rfl Try.func23 (by kernel_rfl) rfl #[.agg #[.string a0_0,.int .i64 a0_1,.int .i64 a0_2,.int .i64 a0_3,.int .i64 a0_4,.int .i64 a0_5,.int .i64 a0_6,.int .i64 a0_7],.slice Ao20 t474.length co20,.slice Ao54 t477.length co54] rfl (by (try simp only [mT,mC,mN]);first|done|rfl|(simp only [lDr,lTk];rfl)) ?_;(with_reducible refine (loading_Verify.calls a0_0 a0_1 a0_2 a0_3 a0_4 a0_5 a0_6 a0_7 _ _ t474 _ _ t477 t487 _ ?side1 ?side2 ?side3 ?side4 A28.out).mono ?_);(case side1=>repeat (first|exact (Kd.R_reads' HO476.out).2.2|(with_reducible first|apply kA|apply kN|apply kD)));(case side2=>exact (Kd.R_reads' HO476.out).2.1);(case side3=>repeat (first|exact (Kd.S_reads' HO479.out).2.2|(with_reducible first|apply kA|apply kN|apply kD)));(case side4=>exact (Kd.S_reads' HO479.out).2.1);rintro e w55 ⟨rfl,hb⟩;refine ⟨_,rfl, ?_⟩;have n0_:=am (Kd.R_below (by (with_reducible repeat (first|apply rA|apply rN|apply rD));exact HO476.out) hb);have n1_:=am (Kd.S_below (by (with_reducible repeat (first|apply Kd.S_alloc|apply Kd.S_drewN|apply Kd.S_drew));exact HO479.out) hb);have n2_:=am (blk_below (g:=gb472) (o:=.cells #[.string a0_0,.int .i64 a0_1,.int .i64 a0_2,.int .i64 a0_3,.int .i64 a0_4,.int .i64 a0_5,.int .i64 a0_6,.int .i64 a0_7] 24 (0,0)) (by (with_reducible repeat (first|apply bN|apply bD|apply bA));exact BK472.out) hb);have n3_:=am (below_step (by repeat (first|(with_reducible first|exact HB.out|apply lA|apply lN|apply lD|refine lS ?_ GE472.out)|exact HB.out)) hb);clear HO476;clear HO479;clear BK472;clear HB;have HO476:=n0_;have HO479:=n1_;have BK472:=n2_;have HB:=n3_;clear n0_ n1_ n2_ n3_;(try clear hb);(try clear hb2);(try clear hk);(try clear hi)))
       go_meet
       case rel=>exact ⟨_,(true),(by first|rfl|(simp;done)|(simp [*];done)),H',⟨by first|omega|exact Nat.le_refl _⟩,⟨by (with_reducible repeat (first|apply rA|apply rN|apply rD));exact HO476.out⟩,⟨by (with_reducible repeat (first|apply Kd.S_alloc|apply Kd.S_drewN|apply Kd.S_drew));exact HO479.out⟩,⟨by (with_reducible repeat (first|apply bN|apply bD|apply bA));exact BK472.out⟩,⟨by repeat (first|(with_reducible first|exact HB.out|apply lA|apply lN|apply lD|refine lS ?_ GE472.out)|exact HB.out)⟩⟩
     case rest =>
      clear HC15
      try clear c1
      try clear c2
      try clear p2
      try clear c3
      try clear c4
      try clear c5
      try clear c5b0
      try clear c5b1
      try clear c8
      try clear c10
      try clear c12
      try clear c13
      try clear c13b0
      try clear c13b1
      try clear c14
      try clear c14b0
      try clear c14b1
      try clear c15
      try clear c19
      try clear c23
      try clear c28
      try clear c29
      try clear c29b0
      try clear c29b1
      try clear c30
      try clear c30b0
      try clear c30b1
      try clear c31
      try clear c31b0
      try clear c35
      try clear c35b0
      try clear c39
      try clear c39b0
      try clear c39b1
      try clear c46
      try clear c46b0
      try clear c46b1
      try clear hcz19_0
      try clear hcz19_1
      try clear hcz19_2
      try clear hcz19_3
      try clear hcz19_4
      try clear hcz19_5
      try clear hcz19_6
      try clear hcz19_7
      try clear hcz22_0
      try clear hcz22_1
      try clear hcz22_2
      try clear hcz22_3
      try clear hcz22_4
      try clear hcz22_5
      try clear hcz22_6
      try clear hcz22_7
      try clear hcz24_0
      try clear hcz24_1
      try clear hcz24_2
      try clear hcz24_3
      try clear hcz24_4
      try clear hcz24_5
      try clear hcz24_6
      try clear hcz24_7
      try clear hcz26_0
      try clear hcz26_1
      try clear hcz26_2
      try clear hcz26_3
      try clear hcz26_4
      try clear hcz26_5
      try clear hcz26_6
      try clear hcz26_7
      try clear hcz32_0
      try clear hcz32_1
      try clear hcz32_2
      try clear hcz32_3
      try clear hcz32_4
      try clear hcz32_5
      try clear hcz32_6
      try clear hcz32_7
      try clear hcz36_0
      try clear hcz36_1
      try clear hcz36_2
      try clear hcz36_3
      try clear hcz36_4
      try clear hcz36_5
      try clear hcz36_6
      try clear hcz36_7
      try clear hcz40_0
      try clear hcz40_1
      try clear hcz40_2
      try clear hcz40_3
      try clear hcz40_4
      try clear hcz40_5
      try clear hcz40_6
      try clear hcz40_7
      try clear hcz43_0
      try clear hcz43_1
      try clear hcz43_2
      try clear hcz43_3
      try clear hcz43_4
      try clear hcz43_5
      try clear hcz43_6
      try clear hcz43_7
      try clear hcz47_0
      try clear hcz47_1
      try clear hcz47_2
      try clear hcz47_3
      try clear hcz47_4
      try clear hcz47_5
      try clear hcz47_6
      try clear hcz47_7
      try clear hcz50_0
      try clear hcz50_1
      try clear hcz50_2
      try clear hcz50_3
      try clear hcz50_4
      try clear hcz50_5
      try clear hcz50_6
      try clear hcz50_7
      try clear hcz53_0
      try clear hcz53_1
      try clear hcz53_2
      try clear hcz53_3
      try clear hcz53_4
      try clear hcz53_5
      try clear hcz53_6
      try clear hcz53_7
      try clear hfz19_0
      try clear hfz19_1
      try clear hfz19_2
      try clear hfz19_3
      try clear hfz19_4
      try clear hfz19_5
      try clear hfz19_6
      try clear hfz19_7
      try clear hfz22_0
      try clear hfz22_1
      try clear hfz22_2
      try clear hfz22_3
      try clear hfz22_4
      try clear hfz22_5
      try clear hfz22_6
      try clear hfz22_7
      try clear hfz24_0
      try clear hfz24_1
      try clear hfz24_2
      try clear hfz24_3
      try clear hfz24_4
      try clear hfz24_5
      try clear hfz24_6
      try clear hfz24_7
      try clear hfz26_0
      try clear hfz26_1
      try clear hfz26_2
      try clear hfz26_3
      try clear hfz26_4
      try clear hfz26_5
      try clear hfz26_6
      try clear hfz26_7
      try clear hfz32_0
      try clear hfz32_1
      try clear hfz32_2
      try clear hfz32_3
      try clear hfz32_4
      try clear hfz32_5
      try clear hfz32_6
      try clear hfz32_7
      try clear hfz36_0
      try clear hfz36_1
      try clear hfz36_2
      try clear hfz36_3
      try clear hfz36_4
      try clear hfz36_5
      try clear hfz36_6
      try clear hfz36_7
      try clear hfz40_0
      try clear hfz40_1
      try clear hfz40_2
      try clear hfz40_3
      try clear hfz40_4
      try clear hfz40_5
      try clear hfz40_6
      try clear hfz40_7
      try clear hfz43_0
      try clear hfz43_1
      try clear hfz43_2
      try clear hfz43_3
      try clear hfz43_4
      try clear hfz43_5
      try clear hfz43_6
      try clear hfz43_7
      try clear hfz47_0
      try clear hfz47_1
      try clear hfz47_2
      try clear hfz47_3
      try clear hfz47_4
      try clear hfz47_5
      try clear hfz47_6
      try clear hfz47_7
      try clear hfz50_0
      try clear hfz50_1
      try clear hfz50_2
      try clear hfz50_3
      try clear hfz50_4
      try clear hfz50_5
      try clear hfz50_6
      try clear hfz50_7
      try clear hfz53_0
      try clear hfz53_1
      try clear hfz53_2
      try clear hfz53_3
      try clear hfz53_4
      try clear hfz53_5
      try clear hfz53_6
      try clear hfz53_7
      obtain ⟨kq,x108_14,rfl,HA,HJ14,HO_5,HO_6,BK472,HB⟩ := hcut
      cases kq with
      | zero=>exact absurd HA.out (by simp [gangsawlaw54_LoadingRight.j0])
      | succ kj14 =>
       have H:=HA.out;clear HA;simp only [gangsawlaw54_LoadingRight.j0] at H;by_cases c56 : x108_14 = true
       ·subst c56
        have H1 : (none) = some r:=by rw [if_pos rfl] at H;exact H
        clear H;have H:=H1;clear H1;exact absurd H (by simp)
       ·replace c56:=Bool.eq_false_iff.mpr c56;subst c56
        have H1 : (gangsawlaw54_LoadingRight.l0 kj14 t474 t477 0 0 a0_0 a0_1 a0_2 a0_3 a0_4 a0_5 a0_6 a0_7) = some r:=by rw [if_neg (show ¬ (false = true) by decide)] at H;exact H
        clear H;have H:=H1;clear H1;have H':=am H;clear H
        go_wp2
        go_loopg [12,13] kj14 (fun kq v12 v13 w'=>∃ (x12_2 : Int) (x13_2 : Int),v12 = .int .i64 x12_2 ∧ v13 = .int .i64 x13_2 ∧ Aside0 (gangsawlaw54_LoadingRight.l0 kq t474 t477 x12_2 x13_2 a0_0 a0_1 a0_2 a0_3 a0_4 a0_5 a0_6 a0_7 = some r) ∧ Aside0 (kq ≤ kj14) ∧ Aside0 (Kd.R k64 64 w' w.heap.size (fun _=>True) (.slice Ao20 t474.length co20) t474) ∧ Aside0 (Kd.S k54 54 w' w.heap.size (fun _=>True) v478 t477) ∧ Aside0 (w'.heap[gb472]? = some (.cells #[.string a0_0,.int .i64 a0_1,.int .i64 a0_2,.int .i64 a0_3,.int .i64 a0_4,.int .i64 a0_5,.int .i64 a0_6,.int .i64 a0_7] 24 (0,0))) ∧ Aside0 (Below w.heap.size w w'))
        case atStart=>exact ⟨(0),(0),(by first|rfl|(simp;done)|(simp [*];done)),(by first|rfl|(simp;done)|(simp [*];done)),H',⟨Nat.le_refl _⟩,⟨by (with_reducible repeat (first|apply rA|apply rN|apply rD));exact HO_5.out⟩,⟨by (with_reducible repeat (first|apply Kd.S_alloc|apply Kd.S_drewN|apply Kd.S_drew));exact HO_6.out⟩,⟨by (with_reducible repeat (first|apply bN|apply bD|apply bA));exact BK472.out⟩,⟨by repeat (first|(with_reducible first|exact HB.out|apply lA|apply lN|apply lD|refine lS ?_ GE472.out)|exact HB.out)⟩⟩
        case round =>
         clear H'
         try clear c1
         try clear c2
         try clear p2
         try clear c3
         try clear c4
         try clear c5
         try clear c5b0
         try clear c5b1
         try clear c8
         try clear c10
         try clear c12
         try clear c13
         try clear c13b0
         try clear c13b1
         try clear c14
         try clear c14b0
         try clear c14b1
         try clear c15
         try clear c19
         try clear c23
         try clear c28
         try clear c29
         try clear c29b0
         try clear c29b1
         try clear c30
         try clear c30b0
         try clear c30b1
         try clear c31
         try clear c31b0
         try clear c35
         try clear c35b0
         try clear c39
         try clear c39b0
         try clear c39b1
         try clear c46
         try clear c46b0
         try clear c46b1
         try clear c56
         try clear hcz19_0
         try clear hcz19_1
         try clear hcz19_2
         try clear hcz19_3
         try clear hcz19_4
         try clear hcz19_5
         try clear hcz19_6
         try clear hcz19_7
         try clear hcz22_0
         try clear hcz22_1
         try clear hcz22_2
         try clear hcz22_3
         try clear hcz22_4
         try clear hcz22_5
         try clear hcz22_6
         try clear hcz22_7
         try clear hcz24_0
         try clear hcz24_1
         try clear hcz24_2
         try clear hcz24_3
         try clear hcz24_4
         try clear hcz24_5
         try clear hcz24_6
         try clear hcz24_7
         try clear hcz26_0
         try clear hcz26_1
         try clear hcz26_2
         try clear hcz26_3
         try clear hcz26_4
         try clear hcz26_5
         try clear hcz26_6
         try clear hcz26_7
         try clear hcz32_0
         try clear hcz32_1
         try clear hcz32_2
         try clear hcz32_3
         try clear hcz32_4
         try clear hcz32_5
         try clear hcz32_6
         try clear hcz32_7
         try clear hcz36_0
         try clear hcz36_1
         try clear hcz36_2
         try clear hcz36_3
         try clear hcz36_4
         try clear hcz36_5
         try clear hcz36_6
         try clear hcz36_7
         try clear hcz40_0
         try clear hcz40_1
         try clear hcz40_2
         try clear hcz40_3
         try clear hcz40_4
         try clear hcz40_5
         try clear hcz40_6
         try clear hcz40_7
         try clear hcz43_0
         try clear hcz43_1
         try clear hcz43_2
         try clear hcz43_3
         try clear hcz43_4
         try clear hcz43_5
         try clear hcz43_6
         try clear hcz43_7
         try clear hcz47_0
         try clear hcz47_1
         try clear hcz47_2
         try clear hcz47_3
         try clear hcz47_4
         try clear hcz47_5
         try clear hcz47_6
         try clear hcz47_7
         try clear hcz50_0
         try clear hcz50_1
         try clear hcz50_2
         try clear hcz50_3
         try clear hcz50_4
         try clear hcz50_5
         try clear hcz50_6
         try clear hcz50_7
         try clear hcz53_0
         try clear hcz53_1
         try clear hcz53_2
         try clear hcz53_3
         try clear hcz53_4
         try clear hcz53_5
         try clear hcz53_6
         try clear hcz53_7
         try clear hfz19_0
         try clear hfz19_1
         try clear hfz19_2
         try clear hfz19_3
         try clear hfz19_4
         try clear hfz19_5
         try clear hfz19_6
         try clear hfz19_7
         try clear hfz22_0
         try clear hfz22_1
         try clear hfz22_2
         try clear hfz22_3
         try clear hfz22_4
         try clear hfz22_5
         try clear hfz22_6
         try clear hfz22_7
         try clear hfz24_0
         try clear hfz24_1
         try clear hfz24_2
         try clear hfz24_3
         try clear hfz24_4
         try clear hfz24_5
         try clear hfz24_6
         try clear hfz24_7
         try clear hfz26_0
         try clear hfz26_1
         try clear hfz26_2
         try clear hfz26_3
         try clear hfz26_4
         try clear hfz26_5
         try clear hfz26_6
         try clear hfz26_7
         try clear hfz32_0
         try clear hfz32_1
         try clear hfz32_2
         try clear hfz32_3
         try clear hfz32_4
         try clear hfz32_5
         try clear hfz32_6
         try clear hfz32_7
         try clear hfz36_0
         try clear hfz36_1
         try clear hfz36_2
         try clear hfz36_3
         try clear hfz36_4
         try clear hfz36_5
         try clear hfz36_6
         try clear hfz36_7
         try clear hfz40_0
         try clear hfz40_1
         try clear hfz40_2
         try clear hfz40_3
         try clear hfz40_4
         try clear hfz40_5
         try clear hfz40_6
         try clear hfz40_7
         try clear hfz43_0
         try clear hfz43_1
         try clear hfz43_2
         try clear hfz43_3
         try clear hfz43_4
         try clear hfz43_5
         try clear hfz43_6
         try clear hfz43_7
         try clear hfz47_0
         try clear hfz47_1
         try clear hfz47_2
         try clear hfz47_3
         try clear hfz47_4
         try clear hfz47_5
         try clear hfz47_6
         try clear hfz47_7
         try clear hfz50_0
         try clear hfz50_1
         try clear hfz50_2
         try clear hfz50_3
         try clear hfz50_4
         try clear hfz50_5
         try clear hfz50_6
         try clear hfz50_7
         try clear hfz53_0
         try clear hfz53_1
         try clear hfz53_2
         try clear hfz53_3
         try clear hfz53_4
         try clear hfz53_5
         try clear hfz53_6
         try clear hfz53_7
         try clear p2
         obtain ⟨x12_2,x13_2,rfl,rfl,HA,HK2,HO_5,HO_6,BK472,HB⟩ := hrel
         cases gk with
         | zero=>exact absurd HA.out (by simp [gangsawlaw54_LoadingRight.l0])
         | succ k2 =>
          have H:=HA.out;clear HA;simp only [gangsawlaw54_LoadingRight.l0] at H;by_cases c57 : x13_2 < (t477.length : Int)
          ·rw [if_pos c57] at H;have c57b0 : decide (x13_2 < (t477.length : Int)) = true:=decide_eq_true c57;clear c57;by_cases c58 : 0 ≤ x13_2
           ·rw [if_pos c58] at H;have c58b0 : decide (0 ≤ x13_2) = true:=decide_eq_true c58;clear c58;have HC59:=am H;clear H;obtain ⟨Ao60,co60,eo60⟩ := Kd.S_slice HO_6.out;subst eo60;have p488 : 0 ≤ (x13_2 : Int):=of_decide_eq_true (by first|(with_reducible assumption)|assumption);have q488 : x13_2 < (t477.length : Int):=of_decide_eq_true (by first|(with_reducible assumption)|assumption);obtain ⟨ad488,A488_1,c488_1,e488,hx488_0,hx488_1,hl488_1,hi488_1⟩ := at_T54 (Kd.S_reads' HO_6.out).2.2 x13_2 p488 q488
            cases e488
            obtain ⟨ce488,hce488,hMe488,hcc488⟩ := Kd.S_get HO_6.out z54 x13_2 p488 (by first|exact q488|exact of_decide_eq_true (by first|(with_reducible assumption)|assumption)|(have e_:=(Kd.S_reads' HO_6.out).1;omega));obtain ⟨ve488_1,rfl,ge488_1⟩ := k54_openM hMe488;have hv488_1:=hcc488 1 _ rfl;rw [add_field _ _ 1 (by omega)] at hv488_1;replace hv488_1:=Option.some.inj (hv488_1.symm.trans hx488_1);rw [hv488_1] at ge488_1;have HL488_1:=am (show Kd.R k61 61 _ _ _ _ ((rd_T54 t477 x13_2).f1) from ge488_1);clear hv488_1 ge488_1;clear hcc488 hce488;have HR488_1:=am hi488_1;have HC488_1:=am hl488_1;clear hi488_1 hl488_1;replace p488:=eq_true p488;replace q488:=eq_true q488
            go_upto_region 20 with (fail)
            go_cut [135] (fun v135 wc=>∃ (kq : Nat) (x135_58 : Bool),v135 = .bool x135_58 ∧ Aside0 (gangsawlaw54_LoadingRight.j2 kq t474 t477 x12_2 x13_2 (wrap64 (x12_2 + (((rd_T54 t477 x13_2).f1).length : Int))) x135_58 a0_0 a0_1 a0_2 a0_3 a0_4 a0_5 a0_6 a0_7 = some r) ∧ Aside0 (kq ≤ k2) ∧ Aside0 (Kd.R k64 64 wc w.heap.size (fun _=>True) (.slice Ao20 t474.length co20) t474) ∧ Aside0 (Kd.S k54 54 wc w.heap.size (fun _=>True) (.slice (some ad488) t477.length co60) t477) ∧ Aside0 (wc.heap[gb472]? = some (.cells #[.string a0_0,.int .i64 a0_1,.int .i64 a0_2,.int .i64 a0_3,.int .i64 a0_4,.int .i64 a0_5,.int .i64 a0_6,.int .i64 a0_7] 24 (0,0))) ∧ Aside0 (Kd.C k61 wc A488_1 ((rd_T54 t477 x13_2).f1).length ((rd_T54 t477 x13_2).f1)) ∧ Aside0 (Below w.heap.size w wc))
            case first =>
             have H:=HC59.out;clear HC59;by_cases c61 : (wrap64 (x12_2 + (((rd_T54 t477 x13_2).f1).length : Int))) > (t474.length : Int)
             ·rw [if_pos c61] at H;have c61b0 : decide ((t474.length : Int) < (wrap64 (x12_2 + (((rd_T54 t477 x13_2).f1).length : Int)))) = true:=decide_eq_true c61;clear c61;(first|rw [c61b0]|(simp only [i64_w,i32_w];rw [c61b0])|skip);have H':=am H;clear H
              try go_wp2
              have n0_:=am (Kd.R_drew HO_5.out);have n1_:=am (Kd.S_drew HO_6.out);have n2_:=am (Kd.R_drew HL488_1.out);have n3_:=am (blk_drew BK472.out);have n4_:=am (Kd.C_drew HR488_1.out);have n5_:=am (below_drew1 HB.out);clear HO_5;clear HO_6;clear HL488_1;clear BK472;clear HR488_1;clear HB;have HO_5:=n0_;have HO_6:=n1_;have HL488_1:=n2_;have BK472:=n3_;have HR488_1:=n4_;have HB:=n5_;clear n0_ n1_ n2_ n3_ n4_ n5_
              refine start_ (n:=13) (S:=fun w'=>True) (ds:=[]) #[f_,f_,f_,f_,f_,f_,f_,f_,f_,f_,f_,f_,f_] (by kernel_rfl) rfl rfl trivial (fun hHeld=>?_);refine with_tabW gangsawlaw54_LoadingRight.tab20 gangsawlaw54_LoadingRight.bits20 (fun HT_ HW_=>?_)
              generalize wr.drew = w62 at HO_5 HO_6 HL488_1 BK472 HR488_1 HB hHeld ⊢;refine pure_ (i:=0) (N:=some 123) (v:=?_) (a':=?_) #[t_,f_,f_,f_,f_,f_,f_,f_,f_,f_,f_,f_,f_] rfl rfl (any_of HT_.out (by kernel_rfl)) (fun _ _ _ h=>h) (Or.inl ⟨by rfl, ?_⟩) ?_ ?_;rotate_left;(intro w';go_simp;with_reducible rfl);rotate_left;(simp only [Act.put,sA,s0,sS,i64_w,i32_w];rfl);refine pure_ (i:=1) (N:=some 124) (v:=?_) (a':=?_) #[t_,t_,f_,f_,f_,f_,f_,f_,f_,f_,f_,f_,f_] rfl rfl (any_of HT_.out (by kernel_rfl)) (fun _ _ _ h=>h) (Or.inl ⟨by rfl, ?_⟩) ?_ ?_;rotate_left;(intro w';go_simp;with_reducible rfl);rotate_left;(simp only [Act.put,sA,s0,sS,i64_w,i32_w];rfl);refine pure_ (i:=2) (N:=some 125) (v:=?_) (a':=?_) #[t_,t_,t_,f_,f_,f_,f_,f_,f_,f_,f_,f_,f_] rfl rfl (any_of HT_.out (by kernel_rfl)) (fun _ _ _ h=>h) (Or.inl ⟨by rfl, ?_⟩) ?_ ?_;rotate_left;(intro w';go_simp;with_reducible rfl);rotate_left;(simp only [Act.put,sA,s0,sS,i64_w,i32_w];rfl);refine pure_ (i:=3) (N:=some 126) (v:=?_) (a':=?_) #[t_,t_,t_,t_,f_,f_,f_,f_,f_,f_,f_,f_,f_] rfl rfl (any_of HT_.out (by kernel_rfl)) (fun _ _ _ h=>h) (Or.inl ⟨by rfl, ?_⟩) ?_ ?_;rotate_left;(intro w';go_simp;with_reducible rfl);rotate_left;(simp only [Act.put,sA,s0,sS,i64_w,i32_w];rfl);refine pure_ (i:=4) (N:=some 127) (v:=?_) (a':=?_) #[t_,t_,t_,t_,t_,f_,f_,f_,f_,f_,f_,f_,f_] rfl rfl (any_of HT_.out (by kernel_rfl)) (fun _ _ _ h=>h) (Or.inl ⟨by rfl, ?_⟩) ?_ ?_;rotate_left;(intro w';go_simp;with_reducible rfl);rotate_left;(simp only [Act.put,sA,s0,sS,i64_w,i32_w];rfl);refine pure_ (i:=5) (N:=some 128) (v:=undef) (a':=?_) #[t_,t_,t_,t_,t_,t_,f_,f_,f_,f_,f_,f_,f_] rfl rfl (any_of HT_.out (by kernel_rfl)) (fun _ _ _ h=>h) (Or.inr ⟨by rfl,rfl⟩) ?_ ?_;rotate_left;(simp only [Act.put,sA,s0,sS,i64_w,i32_w];rfl);refine pure_ (i:=6) (N:=some 129) (v:=undef) (a':=?_) #[t_,t_,t_,t_,t_,t_,t_,f_,f_,f_,f_,f_,f_] rfl rfl (any_of HT_.out (by kernel_rfl)) (fun _ _ _ h=>h) (Or.inr ⟨by rfl,rfl⟩) ?_ ?_;rotate_left;(simp only [Act.put,sA,s0,sS,i64_w,i32_w];rfl);refine pure_ (i:=7) (N:=some 130) (v:=undef) (a':=?_) #[t_,t_,t_,t_,t_,t_,t_,t_,f_,f_,f_,f_,f_] rfl rfl (any_of HT_.out (by kernel_rfl)) (fun _ _ _ h=>h) (Or.inr ⟨by rfl,rfl⟩) ?_ ?_;rotate_left;(simp only [Act.put,sA,s0,sS,i64_w,i32_w];rfl);refine pure_ (i:=8) (N:=some 131) (v:=undef) (a':=?_) #[t_,t_,t_,t_,t_,t_,t_,t_,t_,f_,f_,f_,f_] rfl rfl (any_of HT_.out (by kernel_rfl)) (fun _ _ _ h=>h) (Or.inr ⟨by rfl,rfl⟩) ?_ ?_;rotate_left;(simp only [Act.put,sA,s0,sS,i64_w,i32_w];rfl);refine pure_ (i:=9) (N:=some 132) (v:=undef) (a':=?_) #[t_,t_,t_,t_,t_,t_,t_,t_,t_,t_,f_,f_,f_] rfl rfl (any_of HT_.out (by kernel_rfl)) (fun _ _ _ h=>h) (Or.inr ⟨by rfl,rfl⟩) ?_ ?_;rotate_left;(simp only [Act.put,sA,s0,sS,i64_w,i32_w];rfl);refine pure_ (i:=10) (N:=some 133) (v:=undef) (a':=?_) #[t_,t_,t_,t_,t_,t_,t_,t_,t_,t_,t_,f_,f_] rfl rfl (any_of HT_.out (by kernel_rfl)) (fun _ _ _ h=>h) (Or.inr ⟨by rfl,rfl⟩) ?_ ?_;rotate_left;(simp only [Act.put,sA,s0,sS,i64_w,i32_w];rfl);refine pure_ (i:=11) (N:=some 134) (v:=undef) (a':=?_) #[t_,t_,t_,t_,t_,t_,t_,t_,t_,t_,t_,t_,f_] rfl rfl (any_of HT_.out (by kernel_rfl)) (fun _ _ _ h=>h) (Or.inr ⟨by rfl,rfl⟩) ?_ ?_;rotate_left;(simp only [Act.put,sA,s0,sS,i64_w,i32_w];rfl);refine pure_ (i:=12) (N:=some 135) (v:=?_) (a':=?_) #[t_,t_,t_,t_,t_,t_,t_,t_,t_,t_,t_,t_,t_] rfl rfl (any_of HT_.out (by kernel_rfl)) (fun _ _ _ h=>h) (Or.inl ⟨by rfl, ?_⟩) ?_ ?_;rotate_left;(intro w';go_simp;with_reducible rfl);rotate_left;(simp only [Act.put,sA,s0,sS,i64_w,i32_w];rfl)
              refine done_ (done_of HT_.out (by kernel_rfl)) ?_
              try go_wp2
              go_meet
              case rel=>exact ⟨_,(true),(by first|rfl|(simp;done)|(simp [*];done)),H',⟨by have:=HJ14.out;have:=HK2.out;first|omega|exact Nat.le_refl _⟩,⟨by (with_reducible repeat (first|apply rA|apply rN|apply rD));exact HO_5.out⟩,⟨by (with_reducible repeat (first|apply Kd.S_alloc|apply Kd.S_drewN|apply Kd.S_drew));exact HO_6.out⟩,⟨by (with_reducible repeat (first|apply bN|apply bD|apply bA));exact BK472.out⟩,⟨by repeat (first|(with_reducible exact HR488_1.out)|(with_reducible first|apply kA|apply kN|apply kD)|exact HR488_1.out)⟩,⟨by repeat (first|(with_reducible first|exact HB.out|apply lA|apply lN|apply lD|refine lS ?_ GE472.out)|exact HB.out)⟩⟩
             ·rw [if_neg c61] at H;have c61b0 : decide ((t474.length : Int) < (wrap64 (x12_2 + (((rd_T54 t477 x13_2).f1).length : Int)))) = false:=decide_eq_false c61;clear c61;(first|rw [c61b0]|(simp only [i64_w,i32_w];rw [c61b0])|skip)
              by_cases c63 : 0 ≤ x12_2
              ·rw [if_pos c63] at H;have c63b0:=eq_true c63;have c63b1 : decide (0 ≤ x12_2) = true:=decide_eq_true c63;clear c63;by_cases c64 : x12_2 ≤ (wrap64 (x12_2 + (((rd_T54 t477 x13_2).f1).length : Int)))
               ·rw [if_pos c64] at H;have c64b0:=eq_true c64;have c64b1 : decide (x12_2 ≤ (wrap64 (x12_2 + (((rd_T54 t477 x13_2).f1).length : Int)))) = true:=decide_eq_true c64;by_cases c65 : (wrap64 (x12_2 + (((rd_T54 t477 x13_2).f1).length : Int))) ≤ (t474.length : Int)
                ·rw [if_pos c65] at H;have c65b0:=eq_true c65;have c65b1 : decide ((wrap64 (x12_2 + (((rd_T54 t477 x13_2).f1).length : Int))) ≤ (t474.length : Int)) = true:=decide_eq_true c65
                 obtain ⟨y489,hy489⟩ : ∃ y_ : List (S64),y_ = ((t474.take ((wrap64 (x12_2 + (((rd_T54 t477 x13_2).f1).length : Int))) : Int).toNat).drop (x12_2 : Int).toNat):=⟨_,rfl⟩
                 replace H : ((loading_Fits.f k2 a0_0 a0_1 a0_2 a0_3 a0_4 a0_5 a0_6 a0_7 y489).bind fun t493=>(gangsawlaw54_LoadingRight.j2 k2 t474 t477 x12_2 x13_2 (wrap64 (x12_2 + (((rd_T54 t477 x13_2).f1).length : Int))) (t493 != 0) a0_0 a0_1 a0_2 a0_3 a0_4 a0_5 a0_6 a0_7)) = some r:=by first|(rw [hy489];with_reducible exact H)|(have H2_:=(Option.bind_some _ _).symm.trans H;rw [hy489];with_reducible exact H2_)|(have H2_:=(Option.bind_some _ _).symm.trans H;with_reducible exact H2_)|with_reducible exact H|(rw [hy489];exact H)|exact H
                 have Ny489:=am hy489;clear hy489;replace H:=Option.bind_eq_some_iff.mp H;obtain ⟨t493,A660,H⟩ := H;replace H : (gangsawlaw54_LoadingRight.j2 k2 t474 t477 x12_2 x13_2 (wrap64 (x12_2 + (((rd_T54 t477 x13_2).f1).length : Int))) (t493 != 0) a0_0 a0_1 a0_2 a0_3 a0_4 a0_5 a0_6 a0_7) = some r:=H;have A66:=am A660;clear A660;have H':=am H;clear H
                 try go_wp2
                 have n0_:=am (Kd.R_drew HO_5.out);have n1_:=am (Kd.S_drew HO_6.out);have n2_:=am (Kd.R_drew HL488_1.out);have n3_:=am (blk_drew BK472.out);have n4_:=am (Kd.C_drew HR488_1.out);have n5_:=am (below_drew1 HB.out);clear HO_5;clear HO_6;clear HL488_1;clear BK472;clear HR488_1;clear HB;have HO_5:=n0_;have HO_6:=n1_;have HL488_1:=n2_;have BK472:=n3_;have HR488_1:=n4_;have HB:=n5_;clear n0_ n1_ n2_ n3_ n4_ n5_;have q68 : ((wrap64 (x12_2 + (((rd_T54 t477 x13_2).f1).length : Int))) : Int) ≤ ((t474.length : Int) : Int):=of_decide_eq_true (by first|(with_reducible assumption)|assumption);obtain ⟨i068,hi068,_,hsz68,_⟩ := info_parts info64;have hroom68 : t474.length ≤ co20:=(Kd.R_reads' HO_5.out).2.1;have hC68 : Kd.C k64 _ Ao20 t474.length t474:=(Kd.R_reads' HO_5.out).2.2;have ql68 : (x12_2 : Int) ≤ ((wrap64 (x12_2 + (((rd_T54 t477 x13_2).f1).length : Int))) : Int):=of_decide_eq_true (by first|(with_reducible assumption)|assumption);have q068 : (0 : Int) ≤ (x12_2 : Int):=of_decide_eq_true (by first|(with_reducible assumption)|assumption);have hcut68:=cut_mid (P:=Try.prog) 31 64 .i64 .i64 Try.underlying31 hi068 3 hsz68 Ao20 t474.length co20 x12_2 (wrap64 (x12_2 + (((rd_T54 t477 x13_2).f1).length : Int))) q068 ql68 q68 hroom68;have hr68:=Kd.C_mid (lo:=(x12_2 : Int).toNat) (hi:=((wrap64 (x12_2 + (((rd_T54 t477 x13_2).f1).length : Int))) : Int).toNat) (c:=co20) hC68 (by omega) (by omega) hroom68
                 obtain ⟨A68,hA68⟩ : ∃ A_,A_ = (if co20 = (x12_2 : Int).toNat then Ao20 else (Ao20 : Option Addr).map (·.add ((x12_2 : Int).toNat * 3))):=⟨_,rfl⟩
                 obtain ⟨c68,hc68⟩ : ∃ c1,c1 = co20 - (x12_2 : Int).toNat:=⟨_,rfl⟩
                 have hy68 : y489.length = ((wrap64 (x12_2 + (((rd_T54 t477 x13_2).f1).length : Int))) : Int).toNat - (x12_2 : Int).toNat:=(by rw [Ny489.out,lDr,lTk] <;> omega)
                 rw [show ((t474).take ((wrap64 (x12_2 + (((rd_T54 t477 x13_2).f1).length : Int))) : Int).toNat).drop (x12_2 : Int).toNat = y489 from Ny489.out.symm] at hr68
                 replace hr68 : Kd.C k64 _ A68 y489.length y489:=(by rw [hA68];exact hr68)
                 rw [← hy68,← hA68,← hc68] at hcut68;have HR492:=am hr68;have HC492:=am (show y489.length ≤ c68 from by rw [hy68,hc68];exact Nat.sub_le_sub_right (Nat.le_trans (by omega) hroom68) _);clear hr68 hC68 hroom68 hi068 hsz68 hc68;have KY68:=am hy68;have KA68:=am hA68;clear hy68 hA68;have KL68:=am (show ((wrap64 (x12_2 + (((rd_T54 t477 x13_2).f1).length : Int))) : Int).toNat ≤ t474.length from by omega);have KM68:=am (show (x12_2 : Int).toNat ≤ ((wrap64 (x12_2 + (((rd_T54 t477 x13_2).f1).length : Int))) : Int).toNat from by omega);replace q68:=eq_true q68
                 refine start_ (n:=13) (S:=fun w'=>w'.cell? ⟨gb472,0,none⟩ = some (.string a0_0) ∧ w'.cell? ⟨gb472,1,none⟩ = some (.int .i64 a0_1) ∧ w'.cell? ⟨gb472,2,none⟩ = some (.int .i64 a0_2) ∧ w'.cell? ⟨gb472,3,none⟩ = some (.int .i64 a0_3) ∧ w'.cell? ⟨gb472,4,none⟩ = some (.int .i64 a0_4) ∧ w'.cell? ⟨gb472,5,none⟩ = some (.int .i64 a0_5) ∧ w'.cell? ⟨gb472,6,none⟩ = some (.int .i64 a0_6) ∧ w'.cell? ⟨gb472,7,none⟩ = some (.int .i64 a0_7)) (ds:=[]) #[f_,f_,f_,f_,f_,f_,f_,f_,f_,f_,f_,f_,f_] (by kernel_rfl) rfl rfl ⟨(blk_cell BK472.out 0).trans rfl,(blk_cell BK472.out 1).trans rfl,(blk_cell BK472.out 2).trans rfl,(blk_cell BK472.out 3).trans rfl,(blk_cell BK472.out 4).trans rfl,(blk_cell BK472.out 5).trans rfl,(blk_cell BK472.out 6).trans rfl,(blk_cell BK472.out 7).trans rfl⟩ (fun hHeld=>?_);refine with_tabW gangsawlaw54_LoadingRight.tab20 gangsawlaw54_LoadingRight.bits20 (fun HT_ HW_=>?_)
                 generalize wr.drew = w67 at HO_5 HO_6 HL488_1 BK472 HR488_1 HB HR492 hHeld ⊢;refine pure_ (i:=0) (N:=some 123) (v:=?_) (a':=?_) #[t_,f_,f_,f_,f_,f_,f_,f_,f_,f_,f_,f_,f_] rfl rfl (any_of HT_.out (by kernel_rfl)) (fun _ _ _ h=>h) (Or.inl ⟨by rfl, ?_⟩) ?_ ?_;rotate_left;(intro w';go_simp;with_reducible rfl);rotate_left;(simp only [Act.put,sA,s0,sS,i64_w,i32_w];rfl);refine pure_ (i:=1) (N:=some 124) (v:=?_) (a':=?_) #[t_,t_,f_,f_,f_,f_,f_,f_,f_,f_,f_,f_,f_] rfl rfl (any_of HT_.out (by kernel_rfl)) (fun _ _ _ h=>h) (Or.inl ⟨by rfl, ?_⟩) ?_ ?_;rotate_left;(intro w';go_simp;with_reducible rfl);rotate_left;(simp only [Act.put,sA,s0,sS,i64_w,i32_w];rfl);refine pure_ (i:=2) (N:=some 125) (v:=?_) (a':=?_) #[t_,t_,t_,f_,f_,f_,f_,f_,f_,f_,f_,f_,f_] rfl rfl (any_of HT_.out (by kernel_rfl)) (fun _ _ _ h=>h) (Or.inl ⟨by rfl, ?_⟩) ?_ ?_;rotate_left;(intro w';go_simp;with_reducible rfl);rotate_left;(simp only [Act.put,sA,s0,sS,i64_w,i32_w];rfl);refine pure_ (i:=3) (N:=some 126) (v:=?_) (a':=?_) #[t_,t_,t_,t_,f_,f_,f_,f_,f_,f_,f_,f_,f_] rfl rfl (any_of HT_.out (by kernel_rfl)) (fun _ _ _ h=>h) (Or.inl ⟨by rfl, ?_⟩) ?_ ?_;rotate_left;(intro w';go_simp;with_reducible rfl);rotate_left;(simp only [Act.put,sA,s0,sS,i64_w,i32_w];rfl);refine pure_ (i:=4) (N:=some 127) (v:=?_) (a':=?_) #[t_,t_,t_,t_,t_,f_,f_,f_,f_,f_,f_,f_,f_] rfl rfl (any_of HT_.out (by kernel_rfl)) (fun _ _ _ h=>h) (Or.inl ⟨by rfl, ?_⟩) ?_ ?_;rotate_left;(intro w';go_simp;with_reducible rfl);rotate_left;(simp only [Act.put,sA,s0,sS,i64_w,i32_w];rfl);refine pure_ (i:=6) (N:=some 129) (v:=?_) (a':=?_) #[t_,t_,t_,t_,t_,f_,t_,f_,f_,f_,f_,f_,f_] rfl rfl (any_of HT_.out (by kernel_rfl)) (fun _ _ _ h=>h) (Or.inl ⟨by rfl, ?_⟩) ?_ ?_;rotate_left;(intro w';go_simp;with_reducible rfl);rotate_left;(simp only [Act.put,sA,s0,sS,i64_w,i32_w];rfl);refine pure_ (i:=7) (N:=some 130) (v:=?_) (a':=?_) #[t_,t_,t_,t_,t_,f_,t_,t_,f_,f_,f_,f_,f_] rfl rfl (any_of HT_.out (by kernel_rfl)) (fun _ _ _ h=>h) (Or.inl ⟨by rfl, ?_⟩) ?_ ?_;rotate_left;(intro w';go_simp;with_reducible rfl);rotate_left;(simp only [Act.put,sA,s0,sS,i64_w,i32_w];rfl);refine pure_ (i:=8) (N:=some 131) (v:=?_) (a':=?_) #[t_,t_,t_,t_,t_,f_,t_,t_,t_,f_,f_,f_,f_] rfl rfl (any_of HT_.out (by kernel_rfl)) (fun _ _ _ h=>h) (Or.inl ⟨by rfl, ?_⟩) ?_ ?_;rotate_left;(intro w';go_simp;with_reducible rfl);rotate_left;(simp only [Act.put,sA,s0,sS,i64_w,i32_w];rfl);refine pure_ (i:=9) (N:=some 132) (v:=?_) (a':=?_) #[t_,t_,t_,t_,t_,f_,t_,t_,t_,t_,f_,f_,f_] rfl rfl (any_of HT_.out (by kernel_rfl)) (fun _ _ _ h=>h) (Or.inl ⟨by rfl, ?_⟩) ?_ ?_;rotate_left;(intro w';go_simp;with_reducible rfl);rotate_left;(simp only [Act.put,sA,s0,sS,i64_w,i32_w];rfl);refine take_ (i:=5) (N:=some 128) (v:=?_) (a':=?_) #[t_,t_,t_,t_,t_,t_,t_,t_,t_,t_,f_,f_,f_] rfl rfl (take_ofW HT_.out HW_.out (by kernel_rfl)) (fun _ _ _ h=>h) (Or.inl ⟨by rfl, ?_⟩) hHeld ?_ ?_;rotate_left;(rintro w' ⟨s0,s1,s2,s3,s4,s5,s6,s7⟩;go_simp;with_reducible rfl);rotate_left;(simp only [Act.put,sA,s0,sS,i64_w,i32_w];rfl);refine one_ (i:=10) (N:=some 133) #[t_,t_,t_,t_,t_,t_,t_,t_,t_,t_,t_,f_,f_] rfl rfl (one_of HT_.out (by kernel_rfl)) (by decide) (fun K hK=>?_);refine goes_ Try.func17 (by kernel_rfl) rfl #[.agg #[.string a0_0,.int .i64 a0_1,.int .i64 a0_2,.int .i64 a0_3,.int .i64 a0_4,.int .i64 a0_5,.int .i64 a0_6,.int .i64 a0_7],.slice A68 y489.length c68] (by rfl) rfl rfl (by (try simp only [mT,mC,mN]);first|done|rfl|(simp only [lDr,lTk];rfl)) ?_
                 with_reducible refine (loading_Fits.calls k2 a0_0 a0_1 a0_2 a0_3 a0_4 a0_5 a0_6 a0_7 _ _ y489 t493 _ ?side1 ?side2 A66.out).mono ?_
                 (case side1=>repeat (first|exact (by repeat (first|(with_reducible exact HR492.out)|(with_reducible first|apply kA|apply kN|apply kD)|exact HR492.out))|(with_reducible first|apply kA|apply kN|apply kD)));(case side2=>exact HC492.out);rintro e w69 ⟨rfl,hb⟩;refine ⟨_,rfl, ?_⟩;have n0_:=am (Kd.R_below (by (with_reducible repeat (first|apply rA|apply rN|apply rD));exact HO_5.out) hb);have n1_:=am (Kd.S_below (by (with_reducible repeat (first|apply Kd.S_alloc|apply Kd.S_drewN|apply Kd.S_drew));exact HO_6.out) hb);have n2_:=am (Kd.R_below (by (with_reducible repeat (first|apply rA|apply rN|apply rD));exact HL488_1.out) hb);have n3_:=am (blk_below (g:=gb472) (o:=.cells #[.string a0_0,.int .i64 a0_1,.int .i64 a0_2,.int .i64 a0_3,.int .i64 a0_4,.int .i64 a0_5,.int .i64 a0_6,.int .i64 a0_7] 24 (0,0)) (by (with_reducible repeat (first|apply bN|apply bD|apply bA));exact BK472.out) hb);have n4_:=am (kB (by repeat (first|(with_reducible exact HR488_1.out)|(with_reducible first|apply kA|apply kN|apply kD)|exact HR488_1.out)) hb);have n5_:=am (kB (by repeat (first|(with_reducible exact HR492.out)|(with_reducible first|apply kA|apply kN|apply kD)|exact HR492.out)) hb);have n6_:=am (below_step (by repeat (first|(with_reducible first|exact HB.out|apply lA|apply lN|apply lD|refine lS ?_ GE472.out)|exact HB.out)) hb);clear HO_5;clear HO_6;clear HL488_1;clear BK472;clear HR488_1;clear HR492;clear HB;have HO_5:=n0_;have HO_6:=n1_;have HL488_1:=n2_;have BK472:=n3_;have HR488_1:=n4_;have HR492:=n5_;have HB:=n6_;clear n0_ n1_ n2_ n3_ n4_ n5_ n6_;(try clear hb);(try clear hb2);(try clear hk);(try clear hi)
                 refine hK.out _ _ ⟨(blk_cell BK472.out 0).trans rfl,(blk_cell BK472.out 1).trans rfl,(blk_cell BK472.out 2).trans rfl,(blk_cell BK472.out 3).trans rfl,(blk_cell BK472.out 4).trans rfl,(blk_cell BK472.out 5).trans rfl,(blk_cell BK472.out 6).trans rfl,(blk_cell BK472.out 7).trans rfl⟩ (fun hHeld=>?_)
                 clear hK K;refine norm_ (a':=?_) ?_ ?_;rotate_left
                 ·show Act.put _ (some 133) _ = _
                  simp only [Act.put,sA,s0,sS,i64_w,i32_w];rfl
                 refine pure_ (i:=11) (N:=some 134) (v:=?_) (a':=?_) #[t_,t_,t_,t_,t_,t_,t_,t_,t_,t_,t_,t_,f_] rfl rfl (any_of HT_.out (by kernel_rfl)) (fun _ _ _ h=>h) (Or.inl ⟨by rfl, ?_⟩) ?_ ?_;rotate_left;(intro w';go_simp;with_reducible rfl);rotate_left;(simp only [Act.put,sA,s0,sS,i64_w,i32_w];rfl);refine pure_ (i:=12) (N:=some 135) (v:=?_) (a':=?_) #[t_,t_,t_,t_,t_,t_,t_,t_,t_,t_,t_,t_,t_] rfl rfl (any_of HT_.out (by kernel_rfl)) (fun _ _ _ h=>h) (Or.inl ⟨by rfl, ?_⟩) ?_ ?_;rotate_left;(intro w';go_simp;with_reducible rfl);rotate_left;(simp only [Act.put,sA,s0,sS,i64_w,i32_w];rfl)
                 refine done_ (done_of HT_.out (by kernel_rfl)) ?_
                 try go_wp2
                 go_meet
                 case rel=>exact ⟨_,((t493 != 0)),(by first|rfl|(simp;done)|(simp [*];done)),H',⟨by have:=HJ14.out;have:=HK2.out;first|omega|exact Nat.le_refl _⟩,⟨by (with_reducible repeat (first|apply rA|apply rN|apply rD));exact HO_5.out⟩,⟨by (with_reducible repeat (first|apply Kd.S_alloc|apply Kd.S_drewN|apply Kd.S_drew));exact HO_6.out⟩,⟨by (with_reducible repeat (first|apply bN|apply bD|apply bA));exact BK472.out⟩,⟨by repeat (first|(with_reducible exact HR488_1.out)|(with_reducible first|apply kA|apply kN|apply kD)|exact HR488_1.out)⟩,⟨by repeat (first|(with_reducible first|exact HB.out|apply lA|apply lN|apply lD|refine lS ?_ GE472.out)|exact HB.out)⟩⟩
                (rw [if_neg c65] at H;exact absurd H (by simp))
               (rw [if_neg c64] at H;exact absurd H (by simp))
              (rw [if_neg c63] at H;exact absurd H (by simp))
            case rest =>
             clear HC59
             try clear c1
             try clear c2
             try clear p2
             try clear c3
             try clear c4
             try clear p4
             try clear q4
             try clear hx4
             try clear c5
             try clear c5b0
             try clear c5b1
             try clear c6
             try clear p6
             try clear q6
             try clear c8
             try clear c10
             try clear c12
             try clear c13
             try clear c13b0
             try clear c13b1
             try clear c14
             try clear c14b0
             try clear c14b1
             try clear c15
             try clear c17
             try clear c19
             try clear c23
             try clear c28
             try clear c29
             try clear c29b0
             try clear c29b1
             try clear c30
             try clear c30b0
             try clear c30b1
             try clear c31
             try clear c31b0
             try clear c35
             try clear c35b0
             try clear c39
             try clear c39b0
             try clear c39b1
             try clear c46
             try clear c46b0
             try clear c46b1
             try clear c48
             try clear p48
             try clear q48
             try clear hx48
             try clear c56
             try clear c57
             try clear c57b0
             try clear c58
             try clear c58b0
             try clear c61
             try clear c61b0
             try clear c63
             try clear c63b0
             try clear c63b1
             try clear c64
             try clear c64b0
             try clear c64b1
             try clear p64
             try clear c65
             try clear c65b0
             try clear c65b1
             try clear c68
             try clear q68
             try clear hcz19_0
             try clear hcz19_1
             try clear hcz19_2
             try clear hcz19_3
             try clear hcz19_4
             try clear hcz19_5
             try clear hcz19_6
             try clear hcz19_7
             try clear hcz22_0
             try clear hcz22_1
             try clear hcz22_2
             try clear hcz22_3
             try clear hcz22_4
             try clear hcz22_5
             try clear hcz22_6
             try clear hcz22_7
             try clear hcz24_0
             try clear hcz24_1
             try clear hcz24_2
             try clear hcz24_3
             try clear hcz24_4
             try clear hcz24_5
             try clear hcz24_6
             try clear hcz24_7
             try clear hcz26_0
             try clear hcz26_1
             try clear hcz26_2
             try clear hcz26_3
             try clear hcz26_4
             try clear hcz26_5
             try clear hcz26_6
             try clear hcz26_7
             try clear hcz32_0
             try clear hcz32_1
             try clear hcz32_2
             try clear hcz32_3
             try clear hcz32_4
             try clear hcz32_5
             try clear hcz32_6
             try clear hcz32_7
             try clear hcz36_0
             try clear hcz36_1
             try clear hcz36_2
             try clear hcz36_3
             try clear hcz36_4
             try clear hcz36_5
             try clear hcz36_6
             try clear hcz36_7
             try clear hcz40_0
             try clear hcz40_1
             try clear hcz40_2
             try clear hcz40_3
             try clear hcz40_4
             try clear hcz40_5
             try clear hcz40_6
             try clear hcz40_7
             try clear hcz43_0
             try clear hcz43_1
             try clear hcz43_2
             try clear hcz43_3
             try clear hcz43_4
             try clear hcz43_5
             try clear hcz43_6
             try clear hcz43_7
             try clear hcz47_0
             try clear hcz47_1
             try clear hcz47_2
             try clear hcz47_3
             try clear hcz47_4
             try clear hcz47_5
             try clear hcz47_6
             try clear hcz47_7
             try clear hcz50_0
             try clear hcz50_1
             try clear hcz50_2
             try clear hcz50_3
             try clear hcz50_4
             try clear hcz50_5
             try clear hcz50_6
             try clear hcz50_7
             try clear hcz53_0
             try clear hcz53_1
             try clear hcz53_2
             try clear hcz53_3
             try clear hcz53_4
             try clear hcz53_5
             try clear hcz53_6
             try clear hcz53_7
             try clear hfz19_0
             try clear hfz19_1
             try clear hfz19_2
             try clear hfz19_3
             try clear hfz19_4
             try clear hfz19_5
             try clear hfz19_6
             try clear hfz19_7
             try clear hfz22_0
             try clear hfz22_1
             try clear hfz22_2
             try clear hfz22_3
             try clear hfz22_4
             try clear hfz22_5
             try clear hfz22_6
             try clear hfz22_7
             try clear hfz24_0
             try clear hfz24_1
             try clear hfz24_2
             try clear hfz24_3
             try clear hfz24_4
             try clear hfz24_5
             try clear hfz24_6
             try clear hfz24_7
             try clear hfz26_0
             try clear hfz26_1
             try clear hfz26_2
             try clear hfz26_3
             try clear hfz26_4
             try clear hfz26_5
             try clear hfz26_6
             try clear hfz26_7
             try clear hfz32_0
             try clear hfz32_1
             try clear hfz32_2
             try clear hfz32_3
             try clear hfz32_4
             try clear hfz32_5
             try clear hfz32_6
             try clear hfz32_7
             try clear hfz36_0
             try clear hfz36_1
             try clear hfz36_2
             try clear hfz36_3
             try clear hfz36_4
             try clear hfz36_5
             try clear hfz36_6
             try clear hfz36_7
             try clear hfz40_0
             try clear hfz40_1
             try clear hfz40_2
             try clear hfz40_3
             try clear hfz40_4
             try clear hfz40_5
             try clear hfz40_6
             try clear hfz40_7
             try clear hfz43_0
             try clear hfz43_1
             try clear hfz43_2
             try clear hfz43_3
             try clear hfz43_4
             try clear hfz43_5
             try clear hfz43_6
             try clear hfz43_7
             try clear hfz47_0
             try clear hfz47_1
             try clear hfz47_2
             try clear hfz47_3
             try clear hfz47_4
             try clear hfz47_5
             try clear hfz47_6
             try clear hfz47_7
             try clear hfz50_0
             try clear hfz50_1
             try clear hfz50_2
             try clear hfz50_3
             try clear hfz50_4
             try clear hfz50_5
             try clear hfz50_6
             try clear hfz50_7
             try clear hfz53_0
             try clear hfz53_1
             try clear hfz53_2
             try clear hfz53_3
             try clear hfz53_4
             try clear hfz53_5
             try clear hfz53_6
             try clear hfz53_7
             try clear hx488_0
             try clear hx488_1
             try clear p2
             try clear p488
             try clear q068
             try clear q488
             try clear q68
             obtain ⟨kq,x135_58,rfl,HA,HJ58,HO_5,HO_6,BK472,HR488_1,HB⟩ := hcut
             cases kq with
             | zero=>exact absurd HA.out (by simp [gangsawlaw54_LoadingRight.j2])
             | succ kj58 =>
              have H:=HA.out;clear HA;simp only [gangsawlaw54_LoadingRight.j2] at H;by_cases c70 : x135_58 = true
              ·subst c70
               have H1 : (none) = some r:=by rw [if_pos rfl] at H;exact H
               clear H;have H:=H1;clear H1;exact absurd H (by simp)
              ·replace c70:=Bool.eq_false_iff.mpr c70;subst c70
               have H1 : (gangsawlaw54_LoadingRight.l1 kj58 t474 t477 x12_2 x13_2 (wrap64 (x12_2 + (((rd_T54 t477 x13_2).f1).length : Int))) (wrap64 ((wrap64 (x12_2 + (((rd_T54 t477 x13_2).f1).length : Int))) + 1)) a0_0 a0_1 a0_2 a0_3 a0_4 a0_5 a0_6 a0_7) = some r:=by rw [if_neg (show ¬ (false = true) by decide)] at H;exact H
               clear H;have H:=H1;clear H1;have H':=am H;clear H
               go_wp2
               go_loopg [15] kj58 (fun kq v15 w'=>∃ (x15_4 : Int),v15 = .int .i64 x15_4 ∧ Aside0 (gangsawlaw54_LoadingRight.l1 kq t474 t477 x12_2 x13_2 (wrap64 (x12_2 + (((rd_T54 t477 x13_2).f1).length : Int))) x15_4 a0_0 a0_1 a0_2 a0_3 a0_4 a0_5 a0_6 a0_7 = some r) ∧ Aside0 (kq ≤ kj58) ∧ Aside0 (Kd.R k64 64 w' w.heap.size (fun _=>True) (.slice Ao20 t474.length co20) t474) ∧ Aside0 (Kd.S k54 54 w' w.heap.size (fun _=>True) (.slice (some ad488) t477.length co60) t477) ∧ Aside0 (w'.heap[gb472]? = some (.cells #[.string a0_0,.int .i64 a0_1,.int .i64 a0_2,.int .i64 a0_3,.int .i64 a0_4,.int .i64 a0_5,.int .i64 a0_6,.int .i64 a0_7] 24 (0,0))) ∧ Aside0 (Kd.C k61 w' A488_1 ((rd_T54 t477 x13_2).f1).length ((rd_T54 t477 x13_2).f1)) ∧ Aside0 (Below w.heap.size w w'))
               case atStart=>exact ⟨(wrap64 ((wrap64 (x12_2 + (((rd_T54 t477 x13_2).f1).length : Int))) + 1)),(by first|rfl|(simp;done)|(simp [*];done)),H',⟨Nat.le_refl _⟩,⟨by (with_reducible repeat (first|apply rA|apply rN|apply rD));exact HO_5.out⟩,⟨by (with_reducible repeat (first|apply Kd.S_alloc|apply Kd.S_drewN|apply Kd.S_drew));exact HO_6.out⟩,⟨by (with_reducible repeat (first|apply bN|apply bD|apply bA));exact BK472.out⟩,⟨by repeat (first|(with_reducible exact HR488_1.out)|(with_reducible first|apply kA|apply kN|apply kD)|exact HR488_1.out)⟩,⟨by repeat (first|(with_reducible first|exact HB.out|apply lA|apply lN|apply lD|refine lS ?_ GE472.out)|exact HB.out)⟩⟩
               case round =>
                clear H'
                try clear c1
                try clear c2
                try clear p2
                try clear c3
                try clear c4
                try clear p4
                try clear q4
                try clear hx4
                try clear c5
                try clear c5b0
                try clear c5b1
                try clear c6
                try clear p6
                try clear q6
                try clear c7
                try clear c8
                try clear c10
                try clear c12
                try clear c13
                try clear c13b0
                try clear c13b1
                try clear c14
                try clear c14b0
                try clear c14b1
                try clear c15
                try clear c17
                try clear c19
                try clear c23
                try clear c28
                try clear c29
                try clear c29b0
                try clear c29b1
                try clear c30
                try clear c30b0
                try clear c30b1
                try clear c31
                try clear c31b0
                try clear c35
                try clear c35b0
                try clear c39
                try clear c39b0
                try clear c39b1
                try clear c46
                try clear c46b0
                try clear c46b1
                try clear c48
                try clear p48
                try clear q48
                try clear hx48
                try clear c56
                try clear c57
                try clear c57b0
                try clear c58
                try clear c58b0
                try clear c61
                try clear c61b0
                try clear c63
                try clear c63b0
                try clear c63b1
                try clear c64
                try clear c64b0
                try clear c64b1
                try clear p64
                try clear c65
                try clear c65b0
                try clear c65b1
                try clear c68
                try clear q68
                try clear c70
                try clear hcz19_0
                try clear hcz19_1
                try clear hcz19_2
                try clear hcz19_3
                try clear hcz19_4
                try clear hcz19_5
                try clear hcz19_6
                try clear hcz19_7
                try clear hcz22_0
                try clear hcz22_1
                try clear hcz22_2
                try clear hcz22_3
                try clear hcz22_4
                try clear hcz22_5
                try clear hcz22_6
                try clear hcz22_7
                try clear hcz24_0
                try clear hcz24_1
                try clear hcz24_2
                try clear hcz24_3
                try clear hcz24_4
                try clear hcz24_5
                try clear hcz24_6
                try clear hcz24_7
                try clear hcz26_0
                try clear hcz26_1
                try clear hcz26_2
                try clear hcz26_3
                try clear hcz26_4
                try clear hcz26_5
                try clear hcz26_6
                try clear hcz26_7
                try clear hcz32_0
                try clear hcz32_1
                try clear hcz32_2
                try clear hcz32_3
                try clear hcz32_4
                try clear hcz32_5
                try clear hcz32_6
                try clear hcz32_7
                try clear hcz36_0
                try clear hcz36_1
                try clear hcz36_2
                try clear hcz36_3
                try clear hcz36_4
                try clear hcz36_5
                try clear hcz36_6
                try clear hcz36_7
                try clear hcz40_0
                try clear hcz40_1
                try clear hcz40_2
                try clear hcz40_3
                try clear hcz40_4
                try clear hcz40_5
                try clear hcz40_6
                try clear hcz40_7
                try clear hcz43_0
                try clear hcz43_1
                try clear hcz43_2
                try clear hcz43_3
                try clear hcz43_4
                try clear hcz43_5
                try clear hcz43_6
                try clear hcz43_7
                try clear hcz47_0
                try clear hcz47_1
                try clear hcz47_2
                try clear hcz47_3
                try clear hcz47_4
                try clear hcz47_5
                try clear hcz47_6
                try clear hcz47_7
                try clear hcz50_0
                try clear hcz50_1
                try clear hcz50_2
                try clear hcz50_3
                try clear hcz50_4
                try clear hcz50_5
                try clear hcz50_6
                try clear hcz50_7
                try clear hcz53_0
                try clear hcz53_1
                try clear hcz53_2
                try clear hcz53_3
                try clear hcz53_4
                try clear hcz53_5
                try clear hcz53_6
                try clear hcz53_7
                try clear hfz19_0
                try clear hfz19_1
                try clear hfz19_2
                try clear hfz19_3
                try clear hfz19_4
                try clear hfz19_5
                try clear hfz19_6
                try clear hfz19_7
                try clear hfz22_0
                try clear hfz22_1
                try clear hfz22_2
                try clear hfz22_3
                try clear hfz22_4
                try clear hfz22_5
                try clear hfz22_6
                try clear hfz22_7
                try clear hfz24_0
                try clear hfz24_1
                try clear hfz24_2
                try clear hfz24_3
                try clear hfz24_4
                try clear hfz24_5
                try clear hfz24_6
                try clear hfz24_7
                try clear hfz26_0
                try clear hfz26_1
                try clear hfz26_2
                try clear hfz26_3
                try clear hfz26_4
                try clear hfz26_5
                try clear hfz26_6
                try clear hfz26_7
                try clear hfz32_0
                try clear hfz32_1
                try clear hfz32_2
                try clear hfz32_3
                try clear hfz32_4
                try clear hfz32_5
                try clear hfz32_6
                try clear hfz32_7
                try clear hfz36_0
                try clear hfz36_1
                try clear hfz36_2
                try clear hfz36_3
                try clear hfz36_4
                try clear hfz36_5
                try clear hfz36_6
                try clear hfz36_7
                try clear hfz40_0
                try clear hfz40_1
                try clear hfz40_2
                try clear hfz40_3
                try clear hfz40_4
                try clear hfz40_5
                try clear hfz40_6
                try clear hfz40_7
                try clear hfz43_0
                try clear hfz43_1
                try clear hfz43_2
                try clear hfz43_3
                try clear hfz43_4
                try clear hfz43_5
                try clear hfz43_6
                try clear hfz43_7
                try clear hfz47_0
                try clear hfz47_1
                try clear hfz47_2
                try clear hfz47_3
                try clear hfz47_4
                try clear hfz47_5
                try clear hfz47_6
                try clear hfz47_7
                try clear hfz50_0
                try clear hfz50_1
                try clear hfz50_2
                try clear hfz50_3
                try clear hfz50_4
                try clear hfz50_5
                try clear hfz50_6
                try clear hfz50_7
                try clear hfz53_0
                try clear hfz53_1
                try clear hfz53_2
                try clear hfz53_3
                try clear hfz53_4
                try clear hfz53_5
                try clear hfz53_6
                try clear hfz53_7
                try clear hx488_0
                try clear hx488_1
                try clear p2
                try clear p4
                try clear p48
                try clear p488
                try clear p6
                try clear p64
                try clear q068
                try clear q4
                try clear q48
                try clear q488
                try clear q6
                try clear q68
                obtain ⟨x15_4,rfl,HA,HK4,HO_5,HO_6,BK472,HR488_1,HB⟩ := hrel
                cases gk with
                | zero=>exact absurd HA.out (by simp [gangsawlaw54_LoadingRight.l1])
                | succ k4 =>
                 have H:=HA.out;clear HA;simp only [gangsawlaw54_LoadingRight.l1] at H;by_cases c71 : x15_4 ≤ (t474.length : Int)
                 ·rw [if_pos c71] at H;have c71b0 : decide (x15_4 ≤ (t474.length : Int)) = true:=decide_eq_true c71;clear c71;by_cases c72 : 0 ≤ x12_2
                  ·rw [if_pos c72] at H;have c72b0:=eq_true c72;have c72b1 : decide (0 ≤ x12_2) = true:=decide_eq_true c72;clear c72;by_cases c73 : x12_2 ≤ x15_4
                   ·rw [if_pos c73] at H;have c73b0:=eq_true c73;have c73b1 : decide (x12_2 ≤ x15_4) = true:=decide_eq_true c73;clear c73;have c74b0:=eq_true (of_decide_eq_true (by first|(with_reducible assumption)|assumption) : x15_4 ≤ (t474.length : Int))
                    obtain ⟨y494,hy494⟩ : ∃ y_ : List (S64),y_ = ((t474.take (x15_4 : Int).toNat).drop (x12_2 : Int).toNat):=⟨_,rfl⟩
                    replace H : ((loading_Fits.f k4 a0_0 a0_1 a0_2 a0_3 a0_4 a0_5 a0_6 a0_7 y494).bind fun t498=>(if t498 = 0 then (none) else (gangsawlaw54_LoadingRight.l1 k4 t474 t477 x12_2 x13_2 (wrap64 (x12_2 + (((rd_T54 t477 x13_2).f1).length : Int))) (wrap64 (x15_4 + 1)) a0_0 a0_1 a0_2 a0_3 a0_4 a0_5 a0_6 a0_7))) = some r:=by first|(rw [hy494];with_reducible exact H)|(have H2_:=(Option.bind_some _ _).symm.trans H;rw [hy494];with_reducible exact H2_)|(have H2_:=(Option.bind_some _ _).symm.trans H;with_reducible exact H2_)|with_reducible exact H|(rw [hy494];exact H)|exact H
                    have Ny494:=am hy494;clear hy494;replace H:=Option.bind_eq_some_iff.mp H;obtain ⟨t498,A750,H⟩ := H;replace H : (if t498 = 0 then (none) else (gangsawlaw54_LoadingRight.l1 k4 t474 t477 x12_2 x13_2 (wrap64 (x12_2 + (((rd_T54 t477 x13_2).f1).length : Int))) (wrap64 (x15_4 + 1)) a0_0 a0_1 a0_2 a0_3 a0_4 a0_5 a0_6 a0_7)) = some r:=H;have A75:=am A750;clear A750;by_cases c76 : t498 = 0
                    (rw [if_pos c76] at H;exact absurd H (by simp))
                    ·rw [if_neg c76] at H;have c76b0 : (t498 == 0) = false:=beq_eq_false_iff_ne.mpr c76;have c76b1 : (t498 != 0) = true:=bne_iff_ne.mpr c76;have H':=am H;clear H
                     try go_wp2
                     have n0_:=am (Kd.R_drew HO_5.out);have n1_:=am (Kd.S_drew HO_6.out);have n2_:=am (blk_drew BK472.out);have n3_:=am (Kd.C_drew HR488_1.out);have n4_:=am (below_drew1 HB.out);clear HO_5;clear HO_6;clear BK472;clear HR488_1;clear HB;have HO_5:=n0_;have HO_6:=n1_;have BK472:=n2_;have HR488_1:=n3_;have HB:=n4_;clear n0_ n1_ n2_ n3_ n4_;have q78 : (x15_4 : Int) ≤ ((t474.length : Int) : Int):=of_decide_eq_true (by first|(with_reducible assumption)|assumption);obtain ⟨i078,hi078,_,hsz78,_⟩ := info_parts info64;have hroom78 : t474.length ≤ co20:=(Kd.R_reads' HO_5.out).2.1;have hC78 : Kd.C k64 _ Ao20 t474.length t474:=(Kd.R_reads' HO_5.out).2.2;have ql78 : (x12_2 : Int) ≤ (x15_4 : Int):=of_decide_eq_true (by first|(with_reducible assumption)|assumption);have q078 : (0 : Int) ≤ (x12_2 : Int):=of_decide_eq_true (by first|(with_reducible assumption)|assumption)
                     try clear hcut68
                     have hcut78:=cut_mid (P:=Try.prog) 31 64 .i64 .i64 Try.underlying31 hi078 3 hsz78 Ao20 t474.length co20 x12_2 x15_4 q078 ql78 q78 hroom78;have hr78:=Kd.C_mid (lo:=(x12_2 : Int).toNat) (hi:=(x15_4 : Int).toNat) (c:=co20) hC78 (by omega) (by omega) hroom78
                     obtain ⟨A78,hA78⟩ : ∃ A_,A_ = (if co20 = (x12_2 : Int).toNat then Ao20 else (Ao20 : Option Addr).map (·.add ((x12_2 : Int).toNat * 3))):=⟨_,rfl⟩
                     obtain ⟨c78,hc78⟩ : ∃ c1,c1 = co20 - (x12_2 : Int).toNat:=⟨_,rfl⟩
                     have hy78 : y494.length = (x15_4 : Int).toNat - (x12_2 : Int).toNat:=(by rw [Ny494.out,lDr,lTk] <;> omega)
                     rw [show ((t474).take (x15_4 : Int).toNat).drop (x12_2 : Int).toNat = y494 from Ny494.out.symm] at hr78
                     replace hr78 : Kd.C k64 _ A78 y494.length y494:=(by rw [hA78];exact hr78)
                     rw [← hy78,← hA78,← hc78] at hcut78;have HR497:=am hr78;have HC497:=am (show y494.length ≤ c78 from by rw [hy78,hc78];exact Nat.sub_le_sub_right (Nat.le_trans (by omega) hroom78) _);clear hr78 hC78 hroom78 hi078 hsz78 hc78;have KY78:=am hy78;have KA78:=am hA78;clear hy78 hA78;have KL78:=am (show (x15_4 : Int).toNat ≤ t474.length from by omega);have KM78:=am (show (x12_2 : Int).toNat ≤ (x15_4 : Int).toNat from by omega);replace q78:=eq_true q78
                     refine start_ (n:=7) (S:=fun w'=>w'.cell? ⟨gb472,0,none⟩ = some (.string a0_0) ∧ w'.cell? ⟨gb472,1,none⟩ = some (.int .i64 a0_1) ∧ w'.cell? ⟨gb472,2,none⟩ = some (.int .i64 a0_2) ∧ w'.cell? ⟨gb472,3,none⟩ = some (.int .i64 a0_3) ∧ w'.cell? ⟨gb472,4,none⟩ = some (.int .i64 a0_4) ∧ w'.cell? ⟨gb472,5,none⟩ = some (.int .i64 a0_5) ∧ w'.cell? ⟨gb472,6,none⟩ = some (.int .i64 a0_6) ∧ w'.cell? ⟨gb472,7,none⟩ = some (.int .i64 a0_7)) (ds:=[]) #[f_,f_,f_,f_,f_,f_,f_] (by kernel_rfl) rfl rfl ⟨(blk_cell BK472.out 0).trans rfl,(blk_cell BK472.out 1).trans rfl,(blk_cell BK472.out 2).trans rfl,(blk_cell BK472.out 3).trans rfl,(blk_cell BK472.out 4).trans rfl,(blk_cell BK472.out 5).trans rfl,(blk_cell BK472.out 6).trans rfl,(blk_cell BK472.out 7).trans rfl⟩ (fun hHeld=>?_)
                     generalize wr.drew = w77 at HO_5 HO_6 BK472 HR488_1 HB HR497 hHeld ⊢;refine pure_ (i:=1) (N:=some 145) (v:=?_) (a':=?_) #[f_,t_,f_,f_,f_,f_,f_] rfl rfl (by kernel_rfl) (fun _ _ _ h=>h) (Or.inl ⟨by rfl, ?_⟩) ?_ ?_;rotate_left;(intro w';go_simp;with_reducible rfl);rotate_left;(simp only [Act.put,sA,s0,sS,i64_w,i32_w];rfl);refine pure_ (i:=2) (N:=some 146) (v:=?_) (a':=?_) #[f_,t_,t_,f_,f_,f_,f_] rfl rfl (by kernel_rfl) (fun _ _ _ h=>h) (Or.inl ⟨by rfl, ?_⟩) ?_ ?_;rotate_left;(intro w';go_simp;with_reducible rfl);rotate_left;(simp only [Act.put,sA,s0,sS,i64_w,i32_w];rfl);refine pure_ (i:=3) (N:=some 147) (v:=?_) (a':=?_) #[f_,t_,t_,t_,f_,f_,f_] rfl rfl (by kernel_rfl) (fun _ _ _ h=>h) (Or.inl ⟨by rfl, ?_⟩) ?_ ?_;rotate_left;(intro w';go_simp;with_reducible rfl);rotate_left;(simp only [Act.put,sA,s0,sS,i64_w,i32_w];rfl);refine pure_ (i:=4) (N:=some 148) (v:=?_) (a':=?_) #[f_,t_,t_,t_,t_,f_,f_] rfl rfl (by kernel_rfl) (fun _ _ _ h=>h) (Or.inl ⟨by rfl, ?_⟩) ?_ ?_;rotate_left;(intro w';go_simp;with_reducible rfl);rotate_left;(simp only [Act.put,sA,s0,sS,i64_w,i32_w];rfl);refine take_ (i:=0) (N:=some 144) (v:=?_) (a':=?_) #[t_,t_,t_,t_,t_,f_,f_] rfl rfl (by kernel_rfl) (fun _ _ _ h=>h) (Or.inl ⟨by rfl, ?_⟩) hHeld ?_ ?_;rotate_left;(rintro w' ⟨s0,s1,s2,s3,s4,s5,s6,s7⟩;go_simp;with_reducible rfl);rotate_left;(simp only [Act.put,sA,s0,sS,i64_w,i32_w];rfl);refine one_ (i:=5) (N:=some 149) #[t_,t_,t_,t_,t_,t_,f_] rfl rfl (by kernel_rfl) (by decide) (fun K hK=>?_);refine goes_ Try.func17 (by kernel_rfl) rfl #[.agg #[.string a0_0,.int .i64 a0_1,.int .i64 a0_2,.int .i64 a0_3,.int .i64 a0_4,.int .i64 a0_5,.int .i64 a0_6,.int .i64 a0_7],.slice A78 y494.length c78] (by rfl) rfl rfl (by (try simp only [mT,mC,mN]);first|done|rfl|(simp only [lDr,lTk];rfl)) ?_
                     with_reducible refine (loading_Fits.calls k4 a0_0 a0_1 a0_2 a0_3 a0_4 a0_5 a0_6 a0_7 _ _ y494 t498 _ ?side1 ?side2 A75.out).mono ?_
                     (case side1=>repeat (first|exact (by repeat (first|(with_reducible exact HR497.out)|(with_reducible first|apply kA|apply kN|apply kD)|exact HR497.out))|(with_reducible first|apply kA|apply kN|apply kD)));(case side2=>exact HC497.out);rintro e w79 ⟨rfl,hb⟩;refine ⟨_,rfl, ?_⟩;have n0_:=am (Kd.R_below (by (with_reducible repeat (first|apply rA|apply rN|apply rD));exact HO_5.out) hb);have n1_:=am (Kd.S_below (by (with_reducible repeat (first|apply Kd.S_alloc|apply Kd.S_drewN|apply Kd.S_drew));exact HO_6.out) hb);have n2_:=am (blk_below (g:=gb472) (o:=.cells #[.string a0_0,.int .i64 a0_1,.int .i64 a0_2,.int .i64 a0_3,.int .i64 a0_4,.int .i64 a0_5,.int .i64 a0_6,.int .i64 a0_7] 24 (0,0)) (by (with_reducible repeat (first|apply bN|apply bD|apply bA));exact BK472.out) hb);have n3_:=am (kB (by repeat (first|(with_reducible exact HR488_1.out)|(with_reducible first|apply kA|apply kN|apply kD)|exact HR488_1.out)) hb);have n4_:=am (kB (by repeat (first|(with_reducible exact HR497.out)|(with_reducible first|apply kA|apply kN|apply kD)|exact HR497.out)) hb);have n5_:=am (below_step (by repeat (first|(with_reducible first|exact HB.out|apply lA|apply lN|apply lD|refine lS ?_ GE472.out)|exact HB.out)) hb);clear HO_5;clear HO_6;clear BK472;clear HR488_1;clear HR497;clear HB;have HO_5:=n0_;have HO_6:=n1_;have BK472:=n2_;have HR488_1:=n3_;have HR497:=n4_;have HB:=n5_;clear n0_ n1_ n2_ n3_ n4_ n5_;(try clear hb);(try clear hb2);(try clear hk);(try clear hi)
                     refine hK.out _ _ ⟨(blk_cell BK472.out 0).trans rfl,(blk_cell BK472.out 1).trans rfl,(blk_cell BK472.out 2).trans rfl,(blk_cell BK472.out 3).trans rfl,(blk_cell BK472.out 4).trans rfl,(blk_cell BK472.out 5).trans rfl,(blk_cell BK472.out 6).trans rfl,(blk_cell BK472.out 7).trans rfl⟩ (fun hHeld=>?_)
                     clear hK K;refine norm_ (a':=?_) ?_ ?_;rotate_left
                     ·show Act.put _ (some 149) _ = _
                      simp only [Act.put,sA,s0,sS,i64_w,i32_w];rfl
                     refine pure_ (i:=6) (N:=some 150) (v:=?_) (a':=?_) #[t_,t_,t_,t_,t_,t_,t_] rfl rfl (by kernel_rfl) (fun _ _ _ h=>h) (Or.inl ⟨by rfl, ?_⟩) ?_ ?_;rotate_left;(intro w';go_simp;with_reducible rfl);rotate_left;(simp only [Act.put,sA,s0,sS,i64_w,i32_w];rfl)
                     refine done_ (by kernel_rfl) ?_
                     try go_wp2
                     go_roundg k4
                     case measure=>have:=HJ14.out;have:=HK2.out;have:=HJ58.out;have:=HK4.out;omega
                     case rel=>exact ⟨(wrap64 (x15_4 + 1)),(by first|rfl|(simp;done)|(simp [*];done)),H',⟨by have:=HJ14.out;have:=HK2.out;have:=HJ58.out;have:=HK4.out;omega⟩,⟨by (with_reducible repeat (first|apply rA|apply rN|apply rD));exact HO_5.out⟩,⟨by (with_reducible repeat (first|apply Kd.S_alloc|apply Kd.S_drewN|apply Kd.S_drew));exact HO_6.out⟩,⟨by (with_reducible repeat (first|apply bN|apply bD|apply bA));exact BK472.out⟩,⟨by repeat (first|(with_reducible exact HR488_1.out)|(with_reducible first|apply kA|apply kN|apply kD)|exact HR488_1.out)⟩,⟨by repeat (first|(with_reducible first|exact HB.out|apply lA|apply lN|apply lD|refine lS ?_ GE472.out)|exact HB.out)⟩⟩
                   (rw [if_neg c73] at H;exact absurd H (by simp))
                  (rw [if_neg c72] at H;exact absurd H (by simp))
                 ·rw [if_neg c71] at H;have c71b0 : decide (x15_4 ≤ (t474.length : Int)) = false:=decide_eq_false c71;clear c71;have H':=am H;clear H
                  go_wp2
                  go_roundg k4
                  case measure=>have:=HJ14.out;have:=HK2.out;have:=HJ58.out;have:=HK4.out;omega
                  case rel=>exact ⟨((wrap64 (x12_2 + (((rd_T54 t477 x13_2).f1).length : Int)))),(wrap64 (x13_2 + 1)),(by first|rfl|(simp;done)|(simp [*];done)),(by first|rfl|(simp;done)|(simp [*];done)),H',⟨by have:=HJ14.out;have:=HK2.out;have:=HJ58.out;have:=HK4.out;omega⟩,⟨by (with_reducible repeat (first|apply rA|apply rN|apply rD));exact HO_5.out⟩,⟨by (with_reducible repeat (first|apply Kd.S_alloc|apply Kd.S_drewN|apply Kd.S_drew));exact HO_6.out⟩,⟨by (with_reducible repeat (first|apply bN|apply bD|apply bA));exact BK472.out⟩,⟨by repeat (first|(with_reducible first|exact HB.out|apply lA|apply lN|apply lD|refine lS ?_ GE472.out)|exact HB.out)⟩⟩
           (rw [if_neg c58] at H;exact absurd H (by simp))
          ·rw [if_neg c57] at H;have c57b0 : decide (x13_2 < (t477.length : Int)) = false:=decide_eq_false c57;clear c57;obtain rfl:=Option.some.inj H;obtain ⟨Ao80,co80,eo80⟩ := Kd.S_slice HO_6.out;subst eo80
           go_wp2
           go_ret
           exact ⟨by first|rfl|(simp [errW_none,errW_some] <;> rfl)|(simp [*,errW_none,errW_some] <;> rfl),by repeat (first|(with_reducible first|exact HB.out|apply lA|apply lN|apply lD|refine lS ?_ GE472.out)|exact HB.out)⟩
    ·rw [if_neg c14] at H;have c14b0 : (t480 == 0) = false:=beq_eq_false_iff_ne.mpr c14;have c14b1 : (t480 != 0) = true:=bne_iff_ne.mpr c14;by_cases c81 : t480 = 9
     ·rw [if_pos c81] at H;have c81b0 : (t480 == 9) = true:=beq_iff_eq.mpr c81;have c81b1 : (t480 != 9) = false:=bne_eq_false_iff_eq.mpr c81;clear c81;by_cases c82 : t484 = 0
      ·rw [if_pos c82] at H;have c82b0 : (t484 == 0) = true:=beq_iff_eq.mpr c82;have c82b1 : (t484 != 0) = false:=bne_eq_false_iff_eq.mpr c82;clear c82;obtain rfl:=Option.some.inj H
       go_enter Try.func8,Try.ntmps8
       go_wp2_with (first|((with_reducible refine gate_dst (N:=2) rfl ?_);(try (refine gate_guard (by rfl) ?_;dsimp only));refine box_event ?hg (N:=2) ?hd (cs:=#[.string a0_0,.int .i64 a0_1,.int .i64 a0_2,.int .i64 a0_3,.int .i64 a0_4,.int .i64 a0_5,.int .i64 a0_6,.int .i64 a0_7]) (t:=24) ?hr ?_;(case hd=>rfl);(case hg=>rfl);(case hr=>first|(go_simp;done)|(go_simp;rfl));intro gb472 hg w83 hbox hb;have n0_:=am (below_step (by repeat (first|(with_reducible first|exact HB.out|apply lA|apply lN|apply lD)|exact HB.out)) hb);have n1_:=am (hbox);have n2_:=am ((by rw [hg];exact (below_size (by repeat (first|(with_reducible first|exact HB.out|apply lA|apply lN|apply lD)|exact HB.out))) : w.heap.size ≤ gb472));have n3_:=am ((by rw [hg];exact (below_size (by repeat (first|(with_reducible first|exact HB.out|apply lA|apply lN|apply lD)|exact HB.out))) : w.heap.size ≤ gb472));clear HB;have HB:=n0_;have BK472:=n1_;have GW472:=n2_;have GE472:=n3_;clear n0_ n1_ n2_ n3_;clear hb hbox hg)|((with_reducible refine gate_callee (f:=10) rfl ?_);refine goesL_ (some 16) rfl rfl Try.func10 (by kernel_rfl) rfl #[] rfl (by (try simp only [mT,mC,mN]);first|done|rfl|(simp only [lDr,lTk];rfl)) ?_;(with_reducible refine (gangsawlaw54_awake.calls k  true _ A3.out).mono ?_);rintro e w84 ⟨rfl,hb⟩;refine ⟨_,rfl, ?_⟩;have n0_:=am (blk_below (g:=gb472) (o:=.cells #[.string a0_0,.int .i64 a0_1,.int .i64 a0_2,.int .i64 a0_3,.int .i64 a0_4,.int .i64 a0_5,.int .i64 a0_6,.int .i64 a0_7] 24 (0,0)) (by (with_reducible repeat (first|apply bN|apply bD|apply bA));exact BK472.out) hb);have n1_:=am (below_step (by repeat (first|(with_reducible first|exact HB.out|apply lA|apply lN|apply lD|refine lS ?_ GE472.out)|exact HB.out)) hb);clear BK472;clear HB;have BK472:=n0_;have HB:=n1_;clear n0_ n1_;(try clear hb);(try clear hb2);(try clear hk);(try clear hi))|((with_reducible refine gate_callee (f:=13) rfl ?_);refine goesL_ (some 22) rfl rfl Try.func13 (by kernel_rfl) rfl #[.slice A1 l1.length c1] rfl (by (try simp only [mT,mC,mN]);first|done|rfl|(simp only [lDr,lTk];rfl)) ?_;(with_reducible refine (gangsawlaw54_ours.calls k _ _ l1 t474 _ ?side1 ?side2 A8.out).mono ?_);(case side1=>repeat (first|exact (kB HR1.out HB.out)|(with_reducible first|apply kA|apply kN|apply kD)));(case side2=>exact HC1.out);rintro e w85 ⟨v475,rfl,ho0,hb⟩;refine ⟨_,rfl, ?_⟩;have n0_:=am (Kd.R_lower ho0 (below_size (by repeat (first|(with_reducible first|exact HB.out|apply lA|apply lN|apply lD|refine lS ?_ GE472.out)|exact HB.out))));have n1_:=am (blk_below (g:=gb472) (o:=.cells #[.string a0_0,.int .i64 a0_1,.int .i64 a0_2,.int .i64 a0_3,.int .i64 a0_4,.int .i64 a0_5,.int .i64 a0_6,.int .i64 a0_7] 24 (0,0)) (by (with_reducible repeat (first|apply bN|apply bD|apply bA));exact BK472.out) hb);have n2_:=am (below_step (by repeat (first|(with_reducible first|exact HB.out|apply lA|apply lN|apply lD|refine lS ?_ GE472.out)|exact HB.out)) hb);clear BK472;clear HB;have HO476:=n0_;have BK472:=n1_;have HB:=n2_;clear n0_ n1_ n2_;(try clear hb);(try clear hb2);(try clear hk);(try clear hi);(try clear ho0);have hcz86_0 : w85.cell? ⟨gb472,0,none⟩ = some (.string a0_0):=(blk_cell BK472.out 0).trans rfl;have hcz86_1 : w85.cell? ⟨gb472,1,none⟩ = some (.int .i64 a0_1):=(blk_cell BK472.out 1).trans rfl;have hcz86_2 : w85.cell? ⟨gb472,2,none⟩ = some (.int .i64 a0_2):=(blk_cell BK472.out 2).trans rfl;have hcz86_3 : w85.cell? ⟨gb472,3,none⟩ = some (.int .i64 a0_3):=(blk_cell BK472.out 3).trans rfl;have hcz86_4 : w85.cell? ⟨gb472,4,none⟩ = some (.int .i64 a0_4):=(blk_cell BK472.out 4).trans rfl;have hcz86_5 : w85.cell? ⟨gb472,5,none⟩ = some (.int .i64 a0_5):=(blk_cell BK472.out 5).trans rfl;have hcz86_6 : w85.cell? ⟨gb472,6,none⟩ = some (.int .i64 a0_6):=(blk_cell BK472.out 6).trans rfl;have hcz86_7 : w85.cell? ⟨gb472,7,none⟩ = some (.int .i64 a0_7):=(blk_cell BK472.out 7).trans rfl;have hfz86_0:=blk_frozen BK472.out 0;have hfz86_1:=blk_frozen BK472.out 1;have hfz86_2:=blk_frozen BK472.out 2;have hfz86_3:=blk_frozen BK472.out 3;have hfz86_4:=blk_frozen BK472.out 4;have hfz86_5:=blk_frozen BK472.out 5;have hfz86_6:=blk_frozen BK472.out 6;have hfz86_7:=blk_frozen BK472.out 7;obtain ⟨Ao87,co87,eo87⟩ := Kd.R_slice HO476.out;subst eo87)|((with_reducible refine gate_callee (f:=19) rfl ?_);refine goesL_ (some 26) rfl rfl Try.func19 (by kernel_rfl) rfl #[.agg #[.string a0_0,.int .i64 a0_1,.int .i64 a0_2,.int .i64 a0_3,.int .i64 a0_4,.int .i64 a0_5,.int .i64 a0_6,.int .i64 a0_7],.slice Ao87 t474.length co87] rfl (by (try simp only [mT,mC,mN]);first|done|rfl|(simp only [lDr,lTk];rfl)) ?_;(with_reducible refine (loading_Plan.calls k a0_0 a0_1 a0_2 a0_3 a0_4 a0_5 a0_6 a0_7 (fun k_=>some k_ = (.slice Ao87 t474.length co87 : Value).ownBlock) _ _ t474 t477 t480 _ ?side1 A9.out).mono ?_);(case side1=>exact Kd.R_V (Kd.R_tight rfl (Kd.R_types (HO476.out) BK472.out (by decide))));rintro e w88 ⟨v478,rfl,ho0,hb⟩;refine ⟨_,rfl, ?_⟩;have n0_:=am (Kd.R_below (by (with_reducible repeat (first|apply rA|apply rN|apply rD));exact HO476.out) hb);have n1_:=am (Kd.S_lower (Kd.S_mono (ok':=fun k_=>True) ho0 (fun _ hk_=>trivial)) (below_size (by repeat (first|(with_reducible first|exact HB.out|apply lA|apply lN|apply lD|refine lS ?_ GE472.out)|exact HB.out))));have n2_:=am (blk_below (g:=gb472) (o:=.cells #[.string a0_0,.int .i64 a0_1,.int .i64 a0_2,.int .i64 a0_3,.int .i64 a0_4,.int .i64 a0_5,.int .i64 a0_6,.int .i64 a0_7] 24 (0,0)) (by (with_reducible repeat (first|apply bN|apply bD|apply bA));exact BK472.out) hb);have n3_:=am (below_step (by repeat (first|(with_reducible first|exact HB.out|apply lA|apply lN|apply lD|refine lS ?_ GE472.out)|exact HB.out)) hb);clear HO476;clear BK472;clear HB;have HO476:=n0_;have HO479:=n1_;have BK472:=n2_;have HB:=n3_;clear n0_ n1_ n2_ n3_;(try clear hb);(try clear hb2);(try clear hk);(try clear hi);(try clear ho0);have hcz89_0 : w88.cell? ⟨gb472,0,none⟩ = some (.string a0_0):=(blk_cell BK472.out 0).trans rfl;have hcz89_1 : w88.cell? ⟨gb472,1,none⟩ = some (.int .i64 a0_1):=(blk_cell BK472.out 1).trans rfl;have hcz89_2 : w88.cell? ⟨gb472,2,none⟩ = some (.int .i64 a0_2):=(blk_cell BK472.out 2).trans rfl;have hcz89_3 : w88.cell? ⟨gb472,3,none⟩ = some (.int .i64 a0_3):=(blk_cell BK472.out 3).trans rfl;have hcz89_4 : w88.cell? ⟨gb472,4,none⟩ = some (.int .i64 a0_4):=(blk_cell BK472.out 4).trans rfl;have hcz89_5 : w88.cell? ⟨gb472,5,none⟩ = some (.int .i64 a0_5):=(blk_cell BK472.out 5).trans rfl;have hcz89_6 : w88.cell? ⟨gb472,6,none⟩ = some (.int .i64 a0_6):=(blk_cell BK472.out 6).trans rfl;have hcz89_7 : w88.cell? ⟨gb472,7,none⟩ = some (.int .i64 a0_7):=(blk_cell BK472.out 7).trans rfl;have hfz89_0:=blk_frozen BK472.out 0;have hfz89_1:=blk_frozen BK472.out 1;have hfz89_2:=blk_frozen BK472.out 2;have hfz89_3:=blk_frozen BK472.out 3;have hfz89_4:=blk_frozen BK472.out 4;have hfz89_5:=blk_frozen BK472.out 5;have hfz89_6:=blk_frozen BK472.out 6;have hfz89_7:=blk_frozen BK472.out 7)|((with_reducible refine gate_callee (f:=28) rfl ?_);refine goesL_ (some 32) rfl rfl Try.func28 (by kernel_rfl) rfl #[.agg #[.string a0_0,.int .i64 a0_1,.int .i64 a0_2,.int .i64 a0_3,.int .i64 a0_4,.int .i64 a0_5,.int .i64 a0_6,.int .i64 a0_7],.slice Ao87 t474.length co87] rfl (by (try simp only [mT,mC,mN]);first|done|rfl|(simp only [lDr,lTk];rfl)) ?_;(with_reducible refine (loading_Best.calls k a0_0 a0_1 a0_2 a0_3 a0_4 a0_5 a0_6 a0_7 _ _ t474 t481 t482 _ ?side1 ?side2 A10.out).mono ?_);(case side1=>repeat (first|exact (Kd.R_reads' HO476.out).2.2|(with_reducible first|apply kA|apply kN|apply kD)));(case side2=>exact (Kd.R_reads' HO476.out).2.1);rintro e w90 ⟨rfl,hb⟩;refine ⟨_,rfl, ?_⟩;have n0_:=am (Kd.R_below (by (with_reducible repeat (first|apply rA|apply rN|apply rD));exact HO476.out) hb);have n1_:=am (Kd.S_below (by (with_reducible repeat (first|apply Kd.S_alloc|apply Kd.S_drewN|apply Kd.S_drew));exact HO479.out) hb);have n2_:=am (blk_below (g:=gb472) (o:=.cells #[.string a0_0,.int .i64 a0_1,.int .i64 a0_2,.int .i64 a0_3,.int .i64 a0_4,.int .i64 a0_5,.int .i64 a0_6,.int .i64 a0_7] 24 (0,0)) (by (with_reducible repeat (first|apply bN|apply bD|apply bA));exact BK472.out) hb);have n3_:=am (below_step (by repeat (first|(with_reducible first|exact HB.out|apply lA|apply lN|apply lD|refine lS ?_ GE472.out)|exact HB.out)) hb);clear HO476;clear HO479;clear BK472;clear HB;have HO476:=n0_;have HO479:=n1_;have BK472:=n2_;have HB:=n3_;clear n0_ n1_ n2_ n3_;(try clear hb);(try clear hb2);(try clear hk);(try clear hi);have hcz91_0 : w90.cell? ⟨gb472,0,none⟩ = some (.string a0_0):=(blk_cell BK472.out 0).trans rfl;have hcz91_1 : w90.cell? ⟨gb472,1,none⟩ = some (.int .i64 a0_1):=(blk_cell BK472.out 1).trans rfl;have hcz91_2 : w90.cell? ⟨gb472,2,none⟩ = some (.int .i64 a0_2):=(blk_cell BK472.out 2).trans rfl;have hcz91_3 : w90.cell? ⟨gb472,3,none⟩ = some (.int .i64 a0_3):=(blk_cell BK472.out 3).trans rfl;have hcz91_4 : w90.cell? ⟨gb472,4,none⟩ = some (.int .i64 a0_4):=(blk_cell BK472.out 4).trans rfl;have hcz91_5 : w90.cell? ⟨gb472,5,none⟩ = some (.int .i64 a0_5):=(blk_cell BK472.out 5).trans rfl;have hcz91_6 : w90.cell? ⟨gb472,6,none⟩ = some (.int .i64 a0_6):=(blk_cell BK472.out 6).trans rfl;have hcz91_7 : w90.cell? ⟨gb472,7,none⟩ = some (.int .i64 a0_7):=(blk_cell BK472.out 7).trans rfl;have hfz91_0:=blk_frozen BK472.out 0;have hfz91_1:=blk_frozen BK472.out 1;have hfz91_2:=blk_frozen BK472.out 2;have hfz91_3:=blk_frozen BK472.out 3;have hfz91_4:=blk_frozen BK472.out 4;have hfz91_5:=blk_frozen BK472.out 5;have hfz91_6:=blk_frozen BK472.out 6;have hfz91_7:=blk_frozen BK472.out 7)|((with_reducible refine gate_callee (f:=12) rfl ?_);refine goesL_ (some 38) rfl rfl Try.func12 (by kernel_rfl) rfl #[.agg #[.string a0_0,.int .i64 a0_1,.int .i64 a0_2,.int .i64 a0_3,.int .i64 a0_4,.int .i64 a0_5,.int .i64 a0_6,.int .i64 a0_7],.slice Ao87 t474.length co87] rfl (by (try simp only [mT,mC,mN]);first|done|rfl|(simp only [lDr,lTk];rfl)) ?_;(with_reducible refine (loading_Alone.calls k a0_0 a0_1 a0_2 a0_3 a0_4 a0_5 a0_6 a0_7 _ _ t474 t483 t484 _ ?side1 ?side2 A11.out).mono ?_);(case side1=>repeat (first|exact (Kd.R_reads' HO476.out).2.2|(with_reducible first|apply kA|apply kN|apply kD)));(case side2=>exact (Kd.R_reads' HO476.out).2.1);rintro e w92 ⟨rfl,hb⟩;refine ⟨_,rfl, ?_⟩;have n0_:=am (Kd.R_below (by (with_reducible repeat (first|apply rA|apply rN|apply rD));exact HO476.out) hb);have n1_:=am (Kd.S_below (by (with_reducible repeat (first|apply Kd.S_alloc|apply Kd.S_drewN|apply Kd.S_drew));exact HO479.out) hb);have n2_:=am (blk_below (g:=gb472) (o:=.cells #[.string a0_0,.int .i64 a0_1,.int .i64 a0_2,.int .i64 a0_3,.int .i64 a0_4,.int .i64 a0_5,.int .i64 a0_6,.int .i64 a0_7] 24 (0,0)) (by (with_reducible repeat (first|apply bN|apply bD|apply bA));exact BK472.out) hb);have n3_:=am (below_step (by repeat (first|(with_reducible first|exact HB.out|apply lA|apply lN|apply lD|refine lS ?_ GE472.out)|exact HB.out)) hb);clear HO476;clear HO479;clear BK472;clear HB;have HO476:=n0_;have HO479:=n1_;have BK472:=n2_;have HB:=n3_;clear n0_ n1_ n2_ n3_;(try clear hb);(try clear hb2);(try clear hk);(try clear hi);have hcz93_0 : w92.cell? ⟨gb472,0,none⟩ = some (.string a0_0):=(blk_cell BK472.out 0).trans rfl;have hcz93_1 : w92.cell? ⟨gb472,1,none⟩ = some (.int .i64 a0_1):=(blk_cell BK472.out 1).trans rfl;have hcz93_2 : w92.cell? ⟨gb472,2,none⟩ = some (.int .i64 a0_2):=(blk_cell BK472.out 2).trans rfl;have hcz93_3 : w92.cell? ⟨gb472,3,none⟩ = some (.int .i64 a0_3):=(blk_cell BK472.out 3).trans rfl;have hcz93_4 : w92.cell? ⟨gb472,4,none⟩ = some (.int .i64 a0_4):=(blk_cell BK472.out 4).trans rfl;have hcz93_5 : w92.cell? ⟨gb472,5,none⟩ = some (.int .i64 a0_5):=(blk_cell BK472.out 5).trans rfl;have hcz93_6 : w92.cell? ⟨gb472,6,none⟩ = some (.int .i64 a0_6):=(blk_cell BK472.out 6).trans rfl;have hcz93_7 : w92.cell? ⟨gb472,7,none⟩ = some (.int .i64 a0_7):=(blk_cell BK472.out 7).trans rfl;have hfz93_0:=blk_frozen BK472.out 0;have hfz93_1:=blk_frozen BK472.out 1;have hfz93_2:=blk_frozen BK472.out 2;have hfz93_3:=blk_frozen BK472.out 3;have hfz93_4:=blk_frozen BK472.out 4;have hfz93_5:=blk_frozen BK472.out 5;have hfz93_6:=blk_frozen BK472.out 6;have hfz93_7:=blk_frozen BK472.out 7)|((with_reducible refine gate_callee (f:=15) rfl ?_);refine goesL_ (some 43) rfl rfl Try.func15 (by kernel_rfl) rfl #[.agg #[.string a0_0,.int .i64 a0_1,.int .i64 a0_2,.int .i64 a0_3,.int .i64 a0_4,.int .i64 a0_5,.int .i64 a0_6,.int .i64 a0_7],.slice Ao87 t474.length co87] rfl (by (try simp only [mT,mC,mN]);first|done|rfl|(simp only [lDr,lTk];rfl)) ?_;(with_reducible refine (loading_Check.calls a0_0 a0_1 a0_2 a0_3 a0_4 a0_5 a0_6 a0_7 _ _ t474 t485 _ ?side1 ?side2 A12.out).mono ?_);(case side1=>repeat (first|exact (Kd.R_reads' HO476.out).2.2|(with_reducible first|apply kA|apply kN|apply kD)));(case side2=>exact (Kd.R_reads' HO476.out).2.1);rintro e w94 ⟨rfl,hb⟩;refine ⟨_,rfl, ?_⟩;have n0_:=am (Kd.R_below (by (with_reducible repeat (first|apply rA|apply rN|apply rD));exact HO476.out) hb);have n1_:=am (Kd.S_below (by (with_reducible repeat (first|apply Kd.S_alloc|apply Kd.S_drewN|apply Kd.S_drew));exact HO479.out) hb);have n2_:=am (blk_below (g:=gb472) (o:=.cells #[.string a0_0,.int .i64 a0_1,.int .i64 a0_2,.int .i64 a0_3,.int .i64 a0_4,.int .i64 a0_5,.int .i64 a0_6,.int .i64 a0_7] 24 (0,0)) (by (with_reducible repeat (first|apply bN|apply bD|apply bA));exact BK472.out) hb);have n3_:=am (below_step (by repeat (first|(with_reducible first|exact HB.out|apply lA|apply lN|apply lD|refine lS ?_ GE472.out)|exact HB.out)) hb);clear HO476;clear HO479;clear BK472;clear HB;have HO476:=n0_;have HO479:=n1_;have BK472:=n2_;have HB:=n3_;clear n0_ n1_ n2_ n3_;(try clear hb);(try clear hb2);(try clear hk);(try clear hi);obtain ⟨Ao95,co95,eo95⟩ := Kd.S_slice HO479.out;subst eo95))
       go_ret
       exact ⟨by first|rfl|(simp [errW_none,errW_some] <;> rfl)|(simp [*,errW_none,errW_some] <;> rfl),by repeat (first|(with_reducible first|exact HB.out|apply lA|apply lN|apply lD|refine lS ?_ GE472.out)|exact HB.out)⟩
      (rw [if_neg c82] at H;exact absurd H (by simp))
     (rw [if_neg c81] at H;exact absurd H (by simp))
   ·rw [if_neg c13] at H;have c13b0 : (t485 == 0) = false:=beq_eq_false_iff_ne.mpr c13;have c13b1 : (t485 != 0) = true:=bne_iff_ne.mpr c13;replace H:=Option.bind_eq_some_iff.mp H;obtain ⟨t486,A960,H⟩ := H;replace H : (if t480 = t486 then (if t482 = t480 then (some (t484 == t480)) else (none)) else (none)) = some r:=H;have A96:=am A960;clear A960;by_cases c97 : t480 = t486
    ·rw [if_pos c97] at H;have c97b0 : (t480 == t486) = true:=beq_iff_eq.mpr c97;have c97b1 : (t480 != t486) = false:=bne_eq_false_iff_eq.mpr c97;clear c97;by_cases c98 : t482 = t480
     ·rw [if_pos c98] at H;have c98b0 : (t482 == t480) = true:=beq_iff_eq.mpr c98;have c98b1 : (t482 != t480) = false:=bne_eq_false_iff_eq.mpr c98;clear c98;obtain rfl:=Option.some.inj H
      go_enter Try.func8,Try.ntmps8
      go_wp2_with (first|((with_reducible refine gate_dst (N:=2) rfl ?_);(try (refine gate_guard (by rfl) ?_;dsimp only));refine box_event ?hg (N:=2) ?hd (cs:=#[.string a0_0,.int .i64 a0_1,.int .i64 a0_2,.int .i64 a0_3,.int .i64 a0_4,.int .i64 a0_5,.int .i64 a0_6,.int .i64 a0_7]) (t:=24) ?hr ?_;(case hd=>rfl);(case hg=>rfl);(case hr=>first|(go_simp;done)|(go_simp;rfl));intro gb472 hg w99 hbox hb;have n0_:=am (below_step (by repeat (first|(with_reducible first|exact HB.out|apply lA|apply lN|apply lD)|exact HB.out)) hb);have n1_:=am (hbox);have n2_:=am ((by rw [hg];exact (below_size (by repeat (first|(with_reducible first|exact HB.out|apply lA|apply lN|apply lD)|exact HB.out))) : w.heap.size ≤ gb472));have n3_:=am ((by rw [hg];exact (below_size (by repeat (first|(with_reducible first|exact HB.out|apply lA|apply lN|apply lD)|exact HB.out))) : w.heap.size ≤ gb472));clear HB;have HB:=n0_;have BK472:=n1_;have GW472:=n2_;have GE472:=n3_;clear n0_ n1_ n2_ n3_;clear hb hbox hg)|((with_reducible refine gate_callee (f:=10) rfl ?_);refine goesL_ (some 16) rfl rfl Try.func10 (by kernel_rfl) rfl #[] rfl (by (try simp only [mT,mC,mN]);first|done|rfl|(simp only [lDr,lTk];rfl)) ?_;(with_reducible refine (gangsawlaw54_awake.calls k  true _ A3.out).mono ?_);rintro e w100 ⟨rfl,hb⟩;refine ⟨_,rfl, ?_⟩;have n0_:=am (blk_below (g:=gb472) (o:=.cells #[.string a0_0,.int .i64 a0_1,.int .i64 a0_2,.int .i64 a0_3,.int .i64 a0_4,.int .i64 a0_5,.int .i64 a0_6,.int .i64 a0_7] 24 (0,0)) (by (with_reducible repeat (first|apply bN|apply bD|apply bA));exact BK472.out) hb);have n1_:=am (below_step (by repeat (first|(with_reducible first|exact HB.out|apply lA|apply lN|apply lD|refine lS ?_ GE472.out)|exact HB.out)) hb);clear BK472;clear HB;have BK472:=n0_;have HB:=n1_;clear n0_ n1_;(try clear hb);(try clear hb2);(try clear hk);(try clear hi))|((with_reducible refine gate_callee (f:=13) rfl ?_);refine goesL_ (some 22) rfl rfl Try.func13 (by kernel_rfl) rfl #[.slice A1 l1.length c1] rfl (by (try simp only [mT,mC,mN]);first|done|rfl|(simp only [lDr,lTk];rfl)) ?_;(with_reducible refine (gangsawlaw54_ours.calls k _ _ l1 t474 _ ?side1 ?side2 A8.out).mono ?_);(case side1=>repeat (first|exact (kB HR1.out HB.out)|(with_reducible first|apply kA|apply kN|apply kD)));(case side2=>exact HC1.out);rintro e w101 ⟨v475,rfl,ho0,hb⟩;refine ⟨_,rfl, ?_⟩;have n0_:=am (Kd.R_lower ho0 (below_size (by repeat (first|(with_reducible first|exact HB.out|apply lA|apply lN|apply lD|refine lS ?_ GE472.out)|exact HB.out))));have n1_:=am (blk_below (g:=gb472) (o:=.cells #[.string a0_0,.int .i64 a0_1,.int .i64 a0_2,.int .i64 a0_3,.int .i64 a0_4,.int .i64 a0_5,.int .i64 a0_6,.int .i64 a0_7] 24 (0,0)) (by (with_reducible repeat (first|apply bN|apply bD|apply bA));exact BK472.out) hb);have n2_:=am (below_step (by repeat (first|(with_reducible first|exact HB.out|apply lA|apply lN|apply lD|refine lS ?_ GE472.out)|exact HB.out)) hb);clear BK472;clear HB;have HO476:=n0_;have BK472:=n1_;have HB:=n2_;clear n0_ n1_ n2_;(try clear hb);(try clear hb2);(try clear hk);(try clear hi);(try clear ho0);have hcz102_0 : w101.cell? ⟨gb472,0,none⟩ = some (.string a0_0):=(blk_cell BK472.out 0).trans rfl;have hcz102_1 : w101.cell? ⟨gb472,1,none⟩ = some (.int .i64 a0_1):=(blk_cell BK472.out 1).trans rfl;have hcz102_2 : w101.cell? ⟨gb472,2,none⟩ = some (.int .i64 a0_2):=(blk_cell BK472.out 2).trans rfl;have hcz102_3 : w101.cell? ⟨gb472,3,none⟩ = some (.int .i64 a0_3):=(blk_cell BK472.out 3).trans rfl;have hcz102_4 : w101.cell? ⟨gb472,4,none⟩ = some (.int .i64 a0_4):=(blk_cell BK472.out 4).trans rfl;have hcz102_5 : w101.cell? ⟨gb472,5,none⟩ = some (.int .i64 a0_5):=(blk_cell BK472.out 5).trans rfl;have hcz102_6 : w101.cell? ⟨gb472,6,none⟩ = some (.int .i64 a0_6):=(blk_cell BK472.out 6).trans rfl;have hcz102_7 : w101.cell? ⟨gb472,7,none⟩ = some (.int .i64 a0_7):=(blk_cell BK472.out 7).trans rfl;have hfz102_0:=blk_frozen BK472.out 0;have hfz102_1:=blk_frozen BK472.out 1;have hfz102_2:=blk_frozen BK472.out 2;have hfz102_3:=blk_frozen BK472.out 3;have hfz102_4:=blk_frozen BK472.out 4;have hfz102_5:=blk_frozen BK472.out 5;have hfz102_6:=blk_frozen BK472.out 6;have hfz102_7:=blk_frozen BK472.out 7;obtain ⟨Ao103,co103,eo103⟩ := Kd.R_slice HO476.out;subst eo103)|((with_reducible refine gate_callee (f:=19) rfl ?_);refine goesL_ (some 26) rfl rfl Try.func19 (by kernel_rfl) rfl #[.agg #[.string a0_0,.int .i64 a0_1,.int .i64 a0_2,.int .i64 a0_3,.int .i64 a0_4,.int .i64 a0_5,.int .i64 a0_6,.int .i64 a0_7],.slice Ao103 t474.length co103] rfl (by (try simp only [mT,mC,mN]);first|done|rfl|(simp only [lDr,lTk];rfl)) ?_;(with_reducible refine (loading_Plan.calls k a0_0 a0_1 a0_2 a0_3 a0_4 a0_5 a0_6 a0_7 (fun k_=>some k_ = (.slice Ao103 t474.length co103 : Value).ownBlock) _ _ t474 t477 t480 _ ?side1 A9.out).mono ?_);(case side1=>exact Kd.R_V (Kd.R_tight rfl (Kd.R_types (HO476.out) BK472.out (by decide))));rintro e w104 ⟨v478,rfl,ho0,hb⟩;refine ⟨_,rfl, ?_⟩;have n0_:=am (Kd.R_below (by (with_reducible repeat (first|apply rA|apply rN|apply rD));exact HO476.out) hb);have n1_:=am (Kd.S_lower (Kd.S_mono (ok':=fun k_=>True) ho0 (fun _ hk_=>trivial)) (below_size (by repeat (first|(with_reducible first|exact HB.out|apply lA|apply lN|apply lD|refine lS ?_ GE472.out)|exact HB.out))));have n2_:=am (blk_below (g:=gb472) (o:=.cells #[.string a0_0,.int .i64 a0_1,.int .i64 a0_2,.int .i64 a0_3,.int .i64 a0_4,.int .i64 a0_5,.int .i64 a0_6,.int .i64 a0_7] 24 (0,0)) (by (with_reducible repeat (first|apply bN|apply bD|apply bA));exact BK472.out) hb);have n3_:=am (below_step (by repeat (first|(with_reducible first|exact HB.out|apply lA|apply lN|apply lD|refine lS ?_ GE472.out)|exact HB.out)) hb);clear HO476;clear BK472;clear HB;have HO476:=n0_;have HO479:=n1_;have BK472:=n2_;have HB:=n3_;clear n0_ n1_ n2_ n3_;(try clear hb);(try clear hb2);(try clear hk);(try clear hi);(try clear ho0);have hcz105_0 : w104.cell? ⟨gb472,0,none⟩ = some (.string a0_0):=(blk_cell BK472.out 0).trans rfl;have hcz105_1 : w104.cell? ⟨gb472,1,none⟩ = some (.int .i64 a0_1):=(blk_cell BK472.out 1).trans rfl;have hcz105_2 : w104.cell? ⟨gb472,2,none⟩ = some (.int .i64 a0_2):=(blk_cell BK472.out 2).trans rfl;have hcz105_3 : w104.cell? ⟨gb472,3,none⟩ = some (.int .i64 a0_3):=(blk_cell BK472.out 3).trans rfl;have hcz105_4 : w104.cell? ⟨gb472,4,none⟩ = some (.int .i64 a0_4):=(blk_cell BK472.out 4).trans rfl;have hcz105_5 : w104.cell? ⟨gb472,5,none⟩ = some (.int .i64 a0_5):=(blk_cell BK472.out 5).trans rfl;have hcz105_6 : w104.cell? ⟨gb472,6,none⟩ = some (.int .i64 a0_6):=(blk_cell BK472.out 6).trans rfl;have hcz105_7 : w104.cell? ⟨gb472,7,none⟩ = some (.int .i64 a0_7):=(blk_cell BK472.out 7).trans rfl;have hfz105_0:=blk_frozen BK472.out 0;have hfz105_1:=blk_frozen BK472.out 1;have hfz105_2:=blk_frozen BK472.out 2;have hfz105_3:=blk_frozen BK472.out 3;have hfz105_4:=blk_frozen BK472.out 4;have hfz105_5:=blk_frozen BK472.out 5;have hfz105_6:=blk_frozen BK472.out 6;have hfz105_7:=blk_frozen BK472.out 7)|((with_reducible refine gate_callee (f:=28) rfl ?_);refine goesL_ (some 32) rfl rfl Try.func28 (by kernel_rfl) rfl #[.agg #[.string a0_0,.int .i64 a0_1,.int .i64 a0_2,.int .i64 a0_3,.int .i64 a0_4,.int .i64 a0_5,.int .i64 a0_6,.int .i64 a0_7],.slice Ao103 t474.length co103] rfl (by (try simp only [mT,mC,mN]);first|done|rfl|(simp only [lDr,lTk];rfl)) ?_;(with_reducible refine (loading_Best.calls k a0_0 a0_1 a0_2 a0_3 a0_4 a0_5 a0_6 a0_7 _ _ t474 t481 t482 _ ?side1 ?side2 A10.out).mono ?_);(case side1=>repeat (first|exact (Kd.R_reads' HO476.out).2.2|(with_reducible first|apply kA|apply kN|apply kD)));(case side2=>exact (Kd.R_reads' HO476.out).2.1);rintro e w106 ⟨rfl,hb⟩;refine ⟨_,rfl, ?_⟩;have n0_:=am (Kd.R_below (by (with_reducible repeat (first|apply rA|apply rN|apply rD));exact HO476.out) hb);have n1_:=am (Kd.S_below (by (with_reducible repeat (first|apply Kd.S_alloc|apply Kd.S_drewN|apply Kd.S_drew));exact HO479.out) hb);have n2_:=am (blk_below (g:=gb472) (o:=.cells #[.string a0_0,.int .i64 a0_1,.int .i64 a0_2,.int .i64 a0_3,.int .i64 a0_4,.int .i64 a0_5,.int .i64 a0_6,.int .i64 a0_7] 24 (0,0)) (by (with_reducible repeat (first|apply bN|apply bD|apply bA));exact BK472.out) hb);have n3_:=am (below_step (by repeat (first|(with_reducible first|exact HB.out|apply lA|apply lN|apply lD|refine lS ?_ GE472.out)|exact HB.out)) hb);clear HO476;clear HO479;clear BK472;clear HB;have HO476:=n0_;have HO479:=n1_;have BK472:=n2_;have HB:=n3_;clear n0_ n1_ n2_ n3_;(try clear hb);(try clear hb2);(try clear hk);(try clear hi);have hcz107_0 : w106.cell? ⟨gb472,0,none⟩ = some (.string a0_0):=(blk_cell BK472.out 0).trans rfl;have hcz107_1 : w106.cell? ⟨gb472,1,none⟩ = some (.int .i64 a0_1):=(blk_cell BK472.out 1).trans rfl;have hcz107_2 : w106.cell? ⟨gb472,2,none⟩ = some (.int .i64 a0_2):=(blk_cell BK472.out 2).trans rfl;have hcz107_3 : w106.cell? ⟨gb472,3,none⟩ = some (.int .i64 a0_3):=(blk_cell BK472.out 3).trans rfl;have hcz107_4 : w106.cell? ⟨gb472,4,none⟩ = some (.int .i64 a0_4):=(blk_cell BK472.out 4).trans rfl;have hcz107_5 : w106.cell? ⟨gb472,5,none⟩ = some (.int .i64 a0_5):=(blk_cell BK472.out 5).trans rfl;have hcz107_6 : w106.cell? ⟨gb472,6,none⟩ = some (.int .i64 a0_6):=(blk_cell BK472.out 6).trans rfl;have hcz107_7 : w106.cell? ⟨gb472,7,none⟩ = some (.int .i64 a0_7):=(blk_cell BK472.out 7).trans rfl;have hfz107_0:=blk_frozen BK472.out 0;have hfz107_1:=blk_frozen BK472.out 1;have hfz107_2:=blk_frozen BK472.out 2;have hfz107_3:=blk_frozen BK472.out 3;have hfz107_4:=blk_frozen BK472.out 4;have hfz107_5:=blk_frozen BK472.out 5;have hfz107_6:=blk_frozen BK472.out 6;have hfz107_7:=blk_frozen BK472.out 7)|((with_reducible refine gate_callee (f:=12) rfl ?_);refine goesL_ (some 38) rfl rfl Try.func12 (by kernel_rfl) rfl #[.agg #[.string a0_0,.int .i64 a0_1,.int .i64 a0_2,.int .i64 a0_3,.int .i64 a0_4,.int .i64 a0_5,.int .i64 a0_6,.int .i64 a0_7],.slice Ao103 t474.length co103] rfl (by (try simp only [mT,mC,mN]);first|done|rfl|(simp only [lDr,lTk];rfl)) ?_;(with_reducible refine (loading_Alone.calls k a0_0 a0_1 a0_2 a0_3 a0_4 a0_5 a0_6 a0_7 _ _ t474 t483 t484 _ ?side1 ?side2 A11.out).mono ?_);(case side1=>repeat (first|exact (Kd.R_reads' HO476.out).2.2|(with_reducible first|apply kA|apply kN|apply kD)));(case side2=>exact (Kd.R_reads' HO476.out).2.1);rintro e w108 ⟨rfl,hb⟩;refine ⟨_,rfl, ?_⟩;have n0_:=am (Kd.R_below (by (with_reducible repeat (first|apply rA|apply rN|apply rD));exact HO476.out) hb);have n1_:=am (Kd.S_below (by (with_reducible repeat (first|apply Kd.S_alloc|apply Kd.S_drewN|apply Kd.S_drew));exact HO479.out) hb);have n2_:=am (blk_below (g:=gb472) (o:=.cells #[.string a0_0,.int .i64 a0_1,.int .i64 a0_2,.int .i64 a0_3,.int .i64 a0_4,.int .i64 a0_5,.int .i64 a0_6,.int .i64 a0_7] 24 (0,0)) (by (with_reducible repeat (first|apply bN|apply bD|apply bA));exact BK472.out) hb);have n3_:=am (below_step (by repeat (first|(with_reducible first|exact HB.out|apply lA|apply lN|apply lD|refine lS ?_ GE472.out)|exact HB.out)) hb);clear HO476;clear HO479;clear BK472;clear HB;have HO476:=n0_;have HO479:=n1_;have BK472:=n2_;have HB:=n3_;clear n0_ n1_ n2_ n3_;(try clear hb);(try clear hb2);(try clear hk);(try clear hi);have hcz109_0 : w108.cell? ⟨gb472,0,none⟩ = some (.string a0_0):=(blk_cell BK472.out 0).trans rfl;have hcz109_1 : w108.cell? ⟨gb472,1,none⟩ = some (.int .i64 a0_1):=(blk_cell BK472.out 1).trans rfl;have hcz109_2 : w108.cell? ⟨gb472,2,none⟩ = some (.int .i64 a0_2):=(blk_cell BK472.out 2).trans rfl;have hcz109_3 : w108.cell? ⟨gb472,3,none⟩ = some (.int .i64 a0_3):=(blk_cell BK472.out 3).trans rfl;have hcz109_4 : w108.cell? ⟨gb472,4,none⟩ = some (.int .i64 a0_4):=(blk_cell BK472.out 4).trans rfl;have hcz109_5 : w108.cell? ⟨gb472,5,none⟩ = some (.int .i64 a0_5):=(blk_cell BK472.out 5).trans rfl;have hcz109_6 : w108.cell? ⟨gb472,6,none⟩ = some (.int .i64 a0_6):=(blk_cell BK472.out 6).trans rfl;have hcz109_7 : w108.cell? ⟨gb472,7,none⟩ = some (.int .i64 a0_7):=(blk_cell BK472.out 7).trans rfl;have hfz109_0:=blk_frozen BK472.out 0;have hfz109_1:=blk_frozen BK472.out 1;have hfz109_2:=blk_frozen BK472.out 2;have hfz109_3:=blk_frozen BK472.out 3;have hfz109_4:=blk_frozen BK472.out 4;have hfz109_5:=blk_frozen BK472.out 5;have hfz109_6:=blk_frozen BK472.out 6;have hfz109_7:=blk_frozen BK472.out 7)|((with_reducible refine gate_callee (f:=15) rfl ?_);refine goesL_ (some 43) rfl rfl Try.func15 (by kernel_rfl) rfl #[.agg #[.string a0_0,.int .i64 a0_1,.int .i64 a0_2,.int .i64 a0_3,.int .i64 a0_4,.int .i64 a0_5,.int .i64 a0_6,.int .i64 a0_7],.slice Ao103 t474.length co103] rfl (by (try simp only [mT,mC,mN]);first|done|rfl|(simp only [lDr,lTk];rfl)) ?_;(with_reducible refine (loading_Check.calls a0_0 a0_1 a0_2 a0_3 a0_4 a0_5 a0_6 a0_7 _ _ t474 t485 _ ?side1 ?side2 A12.out).mono ?_);(case side1=>repeat (first|exact (Kd.R_reads' HO476.out).2.2|(with_reducible first|apply kA|apply kN|apply kD)));(case side2=>exact (Kd.R_reads' HO476.out).2.1);rintro e w110 ⟨rfl,hb⟩;refine ⟨_,rfl, ?_⟩;have n0_:=am (Kd.R_below (by (with_reducible repeat (first|apply rA|apply rN|apply rD));exact HO476.out) hb);have n1_:=am (Kd.S_below (by (with_reducible repeat (first|apply Kd.S_alloc|apply Kd.S_drewN|apply Kd.S_drew));exact HO479.out) hb);have n2_:=am (blk_below (g:=gb472) (o:=.cells #[.string a0_0,.int .i64 a0_1,.int .i64 a0_2,.int .i64 a0_3,.int .i64 a0_4,.int .i64 a0_5,.int .i64 a0_6,.int .i64 a0_7] 24 (0,0)) (by (with_reducible repeat (first|apply bN|apply bD|apply bA));exact BK472.out) hb);have n3_:=am (below_step (by repeat (first|(with_reducible first|exact HB.out|apply lA|apply lN|apply lD|refine lS ?_ GE472.out)|exact HB.out)) hb);clear HO476;clear HO479;clear BK472;clear HB;have HO476:=n0_;have HO479:=n1_;have BK472:=n2_;have HB:=n3_;clear n0_ n1_ n2_ n3_;(try clear hb);(try clear hb2);(try clear hk);(try clear hi);have hcz111_0 : w110.cell? ⟨gb472,0,none⟩ = some (.string a0_0):=(blk_cell BK472.out 0).trans rfl;have hcz111_1 : w110.cell? ⟨gb472,1,none⟩ = some (.int .i64 a0_1):=(blk_cell BK472.out 1).trans rfl;have hcz111_2 : w110.cell? ⟨gb472,2,none⟩ = some (.int .i64 a0_2):=(blk_cell BK472.out 2).trans rfl;have hcz111_3 : w110.cell? ⟨gb472,3,none⟩ = some (.int .i64 a0_3):=(blk_cell BK472.out 3).trans rfl;have hcz111_4 : w110.cell? ⟨gb472,4,none⟩ = some (.int .i64 a0_4):=(blk_cell BK472.out 4).trans rfl;have hcz111_5 : w110.cell? ⟨gb472,5,none⟩ = some (.int .i64 a0_5):=(blk_cell BK472.out 5).trans rfl;have hcz111_6 : w110.cell? ⟨gb472,6,none⟩ = some (.int .i64 a0_6):=(blk_cell BK472.out 6).trans rfl;have hcz111_7 : w110.cell? ⟨gb472,7,none⟩ = some (.int .i64 a0_7):=(blk_cell BK472.out 7).trans rfl;have hfz111_0:=blk_frozen BK472.out 0;have hfz111_1:=blk_frozen BK472.out 1;have hfz111_2:=blk_frozen BK472.out 2;have hfz111_3:=blk_frozen BK472.out 3;have hfz111_4:=blk_frozen BK472.out 4;have hfz111_5:=blk_frozen BK472.out 5;have hfz111_6:=blk_frozen BK472.out 6;have hfz111_7:=blk_frozen BK472.out 7)|((with_reducible refine gate_callee (f:=15) rfl ?_);refine goesL_ (some 48) rfl rfl Try.func15 (by kernel_rfl) rfl #[.agg #[.string a0_0,.int .i64 a0_1,.int .i64 a0_2,.int .i64 a0_3,.int .i64 a0_4,.int .i64 a0_5,.int .i64 a0_6,.int .i64 a0_7],.slice Ao103 t474.length co103] rfl (by (try simp only [mT,mC,mN]);first|done|rfl|(simp only [lDr,lTk];rfl)) ?_;(with_reducible refine (loading_Check.calls a0_0 a0_1 a0_2 a0_3 a0_4 a0_5 a0_6 a0_7 _ _ t474 t486 _ ?side1 ?side2 A96.out).mono ?_);(case side1=>repeat (first|exact (Kd.R_reads' HO476.out).2.2|(with_reducible first|apply kA|apply kN|apply kD)));(case side2=>exact (Kd.R_reads' HO476.out).2.1);rintro e w112 ⟨rfl,hb⟩;refine ⟨_,rfl, ?_⟩;have n0_:=am (Kd.R_below (by (with_reducible repeat (first|apply rA|apply rN|apply rD));exact HO476.out) hb);have n1_:=am (Kd.S_below (by (with_reducible repeat (first|apply Kd.S_alloc|apply Kd.S_drewN|apply Kd.S_drew));exact HO479.out) hb);have n2_:=am (blk_below (g:=gb472) (o:=.cells #[.string a0_0,.int .i64 a0_1,.int .i64 a0_2,.int .i64 a0_3,.int .i64 a0_4,.int .i64 a0_5,.int .i64 a0_6,.int .i64 a0_7] 24 (0,0)) (by (with_reducible repeat (first|apply bN|apply bD|apply bA));exact BK472.out) hb);have n3_:=am (below_step (by repeat (first|(with_reducible first|exact HB.out|apply lA|apply lN|apply lD|refine lS ?_ GE472.out)|exact HB.out)) hb);clear HO476;clear HO479;clear BK472;clear HB;have HO476:=n0_;have HO479:=n1_;have BK472:=n2_;have HB:=n3_;clear n0_ n1_ n2_ n3_;(try clear hb);(try clear hb2);(try clear hk);(try clear hi)))
      go_ret
      exact ⟨by first|rfl|(simp [errW_none,errW_some] <;> rfl)|(simp [*,errW_none,errW_some] <;> rfl),by repeat (first|(with_reducible first|exact HB.out|apply lA|apply lN|apply lD|refine lS ?_ GE472.out)|exact HB.out)⟩
     (rw [if_neg c98] at H;exact absurd H (by simp))
    (rw [if_neg c97] at H;exact absurd H (by simp))
 ·replace c4:=Bool.eq_false_iff.mpr c4;subst c4
  have H1 : (none) = some r:=by rw [if_neg (show ¬ (false = true) by decide)] at H;exact H
  clear H;have H:=H1;clear H1;exact absurd H (by simp)

end Go.Proofs.Ytohcgenhhgipcaa.PA
