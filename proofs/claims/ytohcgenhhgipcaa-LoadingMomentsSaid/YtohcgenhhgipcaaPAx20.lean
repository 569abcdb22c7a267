import Derived.Test.YtohcgenhhgipcaaGiven
import Derived.Test.YtohcgenhhgipcaaPAx10
import Derived.Test.YtohcgenhhgipcaaPAx12
import Derived.Test.YtohcgenhhgipcaaPAx19
namespace Go.Proofs.Ytohcgenhhgipcaa.PA
open Go.RowKit Go.Proofs.YtohcgenhhgipcaaW.PrintWords Go.Proofs.YtohcgenhhgipcaaW.PrintLast Go.Proofs.YtohcgenhhgipcaaW.PrintMore
attribute [local go_sem] max2_int min2_int max_two min_two max_three min_three max_four min_four   -- for this text's walks alone
set_option linter.unusedVariables false
set_option linter.unusedSimpArgs false

mutual
def gangsawref54_Moments.l0 : Nat → Int → Bool → Int → ByteArray → Int → Int → Int → Int → Int → Int → Int → ByteArray → List (S61) → Option (Int × Int × Int)
 | 0,_,_,_,_,_,_,_,_,_,_,_,_,_=>none
 | k + 1,x2,x9,x10,x422000,x422001,x422002,x422003,x422004,x422005,x422006,x422007,x423000,x423001=>if x10 < (x423001.length : Int) then (if x9 = true then (if 0 ≤ x10 then ((gangsawref09_Name.f k ((rd_T61 x423001 x10).f0)).bind fun t425=>(gangsawref54_Moments.l0 k x2 t425 (wrap64 (x10 + 1)) x422000 x422001 x422002 x422003 x422004 x422005 x422006 x422007 x423000 x423001)) else (none)) else (gangsawref54_Moments.l0 k x2 false (wrap64 (x10 + 1)) x422000 x422001 x422002 x422003 x422004 x422005 x422006 x422007 x423000 x423001)) else (if x9 = true then ((gangsawref54_truck.f x422000 x422001 x422002 x422003 x422004 x422005 x422006 x422007).bind fun t426=>(gangsawref54_Moments.l1 k x2 t426 0 x422000 x422001 x422002 x422003 x422004 x422005 x422006 x422007 x423000 x423001)) else (some (0,0,4)))
def gangsawref54_Moments.l1 : Nat → Int → Bool → Int → ByteArray → Int → Int → Int → Int → Int → Int → Int → ByteArray → List (S61) → Option (Int × Int × Int)
 | 0,_,_,_,_,_,_,_,_,_,_,_,_,_=>none
 | k + 1,x2,x9,x11,x422000,x422001,x422002,x422003,x422004,x422005,x422006,x422007,x423000,x423001=>if x11 < (x423001.length : Int) then (if x9 = true then (if 0 ≤ x11 then ((gangsawref54_in.f ((rd_T61 x423001 x11).f2) 1 30000).bind fun t428=>(if t428 = true then ((gangsawref54_in.f ((rd_T61 x423001 x11).f3) 1 1000000000).bind fun t430=>(gangsawref54_Moments.l1 k x2 t430 (wrap64 (x11 + 1)) x422000 x422001 x422002 x422003 x422004 x422005 x422006 x422007 x423000 x423001)) else (gangsawref54_Moments.l1 k x2 false (wrap64 (x11 + 1)) x422000 x422001 x422002 x422003 x422004 x422005 x422006 x422007 x423000 x423001))) else (none)) else (gangsawref54_Moments.l1 k x2 false (wrap64 (x11 + 1)) x422000 x422001 x422002 x422003 x422004 x422005 x422006 x422007 x423000 x423001)) else (if x9 = true then (gangsawref54_Moments.l2 k x2 0 x422000 x422001 x422002 x422003 x422004 x422005 x422006 x422007 x423000 x423001) else (some (0,0,6)))
def gangsawref54_Moments.l2 : Nat → Int → Int → ByteArray → Int → Int → Int → Int → Int → Int → Int → ByteArray → List (S61) → Option (Int × Int × Int)
 | 0,_,_,_,_,_,_,_,_,_,_,_,_=>none
 | k + 1,x2,x12,x422000,x422001,x422002,x422003,x422004,x422005,x422006,x422007,x423000,x423001=>if x12 < (x423001.length : Int) then (if 0 ≤ x12 then ((gangsawref54_onBed.f x422000 x422001 x422002 x422003 x422004 x422005 x422006 x422007 ((rd_T61 x423001 x12).f0) ((rd_T61 x423001 x12).f1) ((rd_T61 x423001 x12).f2) ((rd_T61 x423001 x12).f3)).bind fun t432=>(if t432 = true then (gangsawref54_Moments.l2 k x2 (wrap64 (x12 + 1)) x422000 x422001 x422002 x422003 x422004 x422005 x422006 x422007 x423000 x423001) else (some (0,0,12)))) else (none)) else (if x2 < 0 then (some (0,0,6)) else (if x2 > (x423001.length : Int) then (some (0,0,6)) else (if 0 ≤ x2 then (if x2 ≤ (x423001.length : Int) then ((gangsawref54_moments.f k x422000 x422001 x422002 x422003 x422004 x422005 x422006 x422007 (x423001.drop (x2 : Int).toNat)).bind fun bt437=>(some (bt437.1,bt437.2,0))) else (none)) else (none))))
end
def gangsawref54_Moments.f (k : Nat) (a0_0 : ByteArray) (a0_1 : Int) (a0_2 : Int) (a0_3 : Int) (a0_4 : Int) (a0_5 : Int) (a0_6 : Int) (a0_7 : Int) (a1_0 : ByteArray) (l1_1 : List (S61)) (a2 : Int) : Option (Int × Int × Int):=if (l1_1.length : Int) > 64 then (some (0,0,7)) else ((gangsawref09_Name.f k a0_0).bind fun t423=>(gangsawref54_Moments.l0 k a2 t423 0 a0_0 a0_1 a0_2 a0_3 a0_4 a0_5 a0_6 a0_7 a1_0 l1_1))
def gangsawref54_Moments.T20 : Bool × List (List Nat × List Nat):=(true,[([],[]),([],[]),([1],[1]),([],[]),([2,3],[2,3]),([4],[4]),([0,5],[0,5]),([6],[6])])
def gangsawref54_Moments.B20 : List Nat:=[0,0,2,0,14,30,63,127]
theorem gangsawref54_Moments.tab20 : rtab .any (opsOf Try.f27 20) = gangsawref54_Moments.T20:=by kernel_rfl
theorem gangsawref54_Moments.bits20 : waitsOk gangsawref54_Moments.T20.2 gangsawref54_Moments.B20 = true:=by kernel_rfl
def gangsawref54_Moments.T24 : Bool × List (List Nat × List Nat):=(true,[([],[]),([],[]),([1],[1]),([],[]),([2,3],[2,3]),([0,4],[0,4]),([5],[5]),([6],[6]),([6],[6]),([7,5,0,1,2,3,4,5,6,7],[7]),([8,9,0,1,2,3,4,5,6,7,8,9],[8])])
def gangsawref54_Moments.B24 : List Nat:=[0,0,2,0,14,31,63,127,127,255,1023]
theorem gangsawref54_Moments.tab24 : rtab .any (opsOf Try.f27 24) = gangsawref54_Moments.T24:=by kernel_rfl
theorem gangsawref54_Moments.bits24 : waitsOk gangsawref54_Moments.T24.2 gangsawref54_Moments.B24 = true:=by kernel_rfl
set_option maxHeartbeats 8000000 in
set_option maxRecDepth 100000 in
theorem gangsawref54_Moments.calls (k : Nat) (a0_0 : ByteArray) (a0_1 : Int) (a0_2 : Int) (a0_3 : Int) (a0_4 : Int) (a0_5 : Int) (a0_6 : Int) (a0_7 : Int) (a1_0 : ByteArray) (A1_1 : Option Addr) (c1_1 : Nat) (l1_1 : List (S61)) (a2 : Int) (r1 : Int) (r2 : Int) (r3 : Int) (w : World) (hr1_1 : Kd.C k61 w A1_1 l1_1.length l1_1) (hc1_1 : l1_1.length ≤ c1_1) (h : gangsawref54_Moments.f k a0_0 a0_1 a0_2 a0_3 a0_4 a0_5 a0_6 a0_7 a1_0 l1_1 a2 = some (r1, r2, r3)) :
  Calls Try.prog 27 #[.agg #[.string a0_0,.int .i64 a0_1,.int .i64 a0_2,.int .i64 a0_3,.int .i64 a0_4,.int .i64 a0_5,.int .i64 a0_6,.int .i64 a0_7],.agg #[.string a1_0,.slice A1_1 l1_1.length c1_1],.int .i64 a2] w fun e w'=>e = .returned (.tuple #[.int .i64 r1,.int .i64 r2,.int .i64 r3]) ∧ Below w.heap.size w w':=by
 have hu24:=Try.underlying24;have hu47:=Try.underlying47;have hu61:=Try.underlying61;have HR1_1:=am hr1_1;have HC1_1:=am hc1_1;clear hr1_1 hc1_1;have HB:=am (Below.refl w.heap.size w);have H : (if (l1_1.length : Int) > 64 then (some (0,0,7)) else ((gangsawref09_Name.f k a0_0).bind fun t423=>(gangsawref54_Moments.l0 k a2 t423 0 a0_0 a0_1 a0_2 a0_3 a0_4 a0_5 a0_6 a0_7 a1_0 l1_1))) = some (r1,r2,r3):=h;clear h;by_cases c4 : (l1_1.length : Int) > 64
 ·rw [if_pos c4] at H;have c4b0 : decide (64 < (l1_1.length : Int)) = true:=decide_eq_true c4;have c4b1 : decide (64 < l1_1.length) = true:=decide_eq_true (by omega);clear c4;simp only [Option.some.injEq,Prod.mk.injEq] at H;obtain ⟨rfl,rfl,rfl⟩ := H
  go_enter Try.func27,Try.ntmps27
  go_wp2_with (first|((with_reducible refine gate_dst (N:=3) rfl ?_);(try (refine gate_guard (by rfl) ?_;dsimp only));refine box_event ?hg (N:=3) ?hd (cs:=#[.string a0_0,.int .i64 a0_1,.int .i64 a0_2,.int .i64 a0_3,.int .i64 a0_4,.int .i64 a0_5,.int .i64 a0_6,.int .i64 a0_7]) (t:=24) ?hr ?_;(case hd=>rfl);(case hg=>rfl);(case hr=>first|(go_simp;done)|(go_simp;rfl));intro gb421 hg w5 hbox hb;have n0_:=am (below_step (by repeat (first|(with_reducible first|exact HB.out|apply lA|apply lN|apply lD)|exact HB.out)) hb);have n1_:=am (hbox);have n2_:=am ((by rw [hg];exact (below_size (by repeat (first|(with_reducible first|exact HB.out|apply lA|apply lN|apply lD)|exact HB.out))) : w.heap.size ≤ gb421));have n3_:=am ((by rw [hg];exact (below_size (by repeat (first|(with_reducible first|exact HB.out|apply lA|apply lN|apply lD)|exact HB.out))) : w.heap.size ≤ gb421));clear HB;have HB:=n0_;have BK421:=n1_;have GW421:=n2_;have GE421:=n3_;clear n0_ n1_ n2_ n3_;clear hb hbox hg)|((with_reducible refine gate_dst (N:=4) rfl ?_);(try (refine gate_guard (by rfl) ?_;dsimp only));refine box_event ?hg (N:=4) ?hd (cs:=#[.string a1_0,.slice A1_1 l1_1.length c1_1]) (t:=47) ?hr ?_;(case hd=>rfl);(case hg=>rfl);(case hr=>first|(go_simp;done)|(go_simp;rfl));intro gb422 hg w6 hbox hb;have n0_:=am (blk_below (g:=gb421) (o:=.cells #[.string a0_0,.int .i64 a0_1,.int .i64 a0_2,.int .i64 a0_3,.int .i64 a0_4,.int .i64 a0_5,.int .i64 a0_6,.int .i64 a0_7] 24 (0,0)) (by (with_reducible repeat (first|apply bN|apply bD|apply bA));exact BK421.out) hb);have n1_:=am (below_step (by repeat (first|(with_reducible first|exact HB.out|apply lA|apply lN|apply lD|refine lS ?_ GE421.out)|exact HB.out)) hb);have n2_:=am (hbox);have n3_:=am ((by rw [hg];exact (below_size (by repeat (first|(with_reducible first|exact HB.out|apply lA|apply lN|apply lD|refine lS ?_ GE421.out)|exact HB.out))) : w.heap.size ≤ gb422));have n4_:=am ((by rw [hg];exact (below_size (by repeat (first|(with_reducible first|exact HB.out|apply lA|apply lN|apply lD|refine lS ?_ GE421.out)|exact HB.out))) : w.heap.size ≤ gb422));have n5_:=am ((by rw [hg];exact Nat.ne_of_lt (blk_lt (g:=gb421) (o:=.cells #[.string a0_0,.int .i64 a0_1,.int .i64 a0_2,.int .i64 a0_3,.int .i64 a0_4,.int .i64 a0_5,.int .i64 a0_6,.int .i64 a0_7] 24 (0,0)) (by (with_reducible repeat (first|apply bN|apply bD|apply bA));exact BK421.out)) : gb421 ≠ gb422));have n6_:=am ((by rw [hg];exact Nat.ne_of_gt (blk_lt (g:=gb421) (o:=.cells #[.string a0_0,.int .i64 a0_1,.int .i64 a0_2,.int .i64 a0_3,.int .i64 a0_4,.int .i64 a0_5,.int .i64 a0_6,.int .i64 a0_7] 24 (0,0)) (by (with_reducible repeat (first|apply bN|apply bD|apply bA));exact BK421.out)) : gb422 ≠ gb421));clear BK421;clear HB;have BK421:=n0_;have HB:=n1_;have BK422:=n2_;have GW422:=n3_;have GE422:=n4_;have NB421_422:=n5_;have NB422_421:=n6_;clear n0_ n1_ n2_ n3_ n4_ n5_ n6_;clear hb hbox hg;have hnb7:=NB422_421.out;have hnc7:=NB421_422.out;have hcz8_0 : w6.cell? ⟨gb422,0,none⟩ = some (.string a1_0):=(blk_cell BK422.out 0).trans rfl;have hcz8_1 : w6.cell? ⟨gb422,1,none⟩ = some (.slice A1_1 l1_1.length c1_1):=(blk_cell BK422.out 1).trans rfl;have hfz8_0:=blk_frozen BK422.out 0;have hfz8_1:=blk_frozen BK422.out 1))
  go_ret3
  exact ⟨by first|rfl|(simp [errW_none,errW_some] <;> rfl)|(simp [*,errW_none,errW_some] <;> rfl),by repeat (first|(with_reducible first|exact HB.out|apply lA|apply lN|apply lD|refine lS ?_ GE421.out|refine lS ?_ GE422.out)|exact HB.out)⟩
 ·rw [if_neg c4] at H;have c4b0 : decide (64 < (l1_1.length : Int)) = false:=decide_eq_false c4;have c4b1 : decide (64 < l1_1.length) = false:=decide_eq_false (by omega);clear c4;replace H:=Option.bind_eq_some_iff.mp H;obtain ⟨t423,A90,H⟩ := H;replace H : (gangsawref54_Moments.l0 k a2 t423 0 a0_0 a0_1 a0_2 a0_3 a0_4 a0_5 a0_6 a0_7 a1_0 l1_1) = some (r1,r2,r3):=H;have A9:=am A90;clear A90;have H':=am H;clear H
  go_enter Try.func27,Try.ntmps27
  go_wp2_with (first|((with_reducible refine gate_dst (N:=3) rfl ?_);(try (refine gate_guard (by rfl) ?_;dsimp only));refine box_event ?hg (N:=3) ?hd (cs:=#[.string a0_0,.int .i64 a0_1,.int .i64 a0_2,.int .i64 a0_3,.int .i64 a0_4,.int .i64 a0_5,.int .i64 a0_6,.int .i64 a0_7]) (t:=24) ?hr ?_;(case hd=>rfl);(case hg=>rfl);(case hr=>first|(go_simp;done)|(go_simp;rfl));intro gb421 hg w10 hbox hb;have n0_:=am (below_step (by repeat (first|(with_reducible first|exact HB.out|apply lA|apply lN|apply lD)|exact HB.out)) hb);have n1_:=am (hbox);have n2_:=am ((by rw [hg];exact (below_size (by repeat (first|(with_reducible first|exact HB.out|apply lA|apply lN|apply lD)|exact HB.out))) : w.heap.size ≤ gb421));have n3_:=am ((by rw [hg];exact (below_size (by repeat (first|(with_reducible first|exact HB.out|apply lA|apply lN|apply lD)|exact HB.out))) : w.heap.size ≤ gb421));clear HB;have HB:=n0_;have BK421:=n1_;have GW421:=n2_;have GE421:=n3_;clear n0_ n1_ n2_ n3_;clear hb hbox hg)|((with_reducible refine gate_dst (N:=4) rfl ?_);(try (refine gate_guard (by rfl) ?_;dsimp only));refine box_event ?hg (N:=4) ?hd (cs:=#[.string a1_0,.slice A1_1 l1_1.length c1_1]) (t:=47) ?hr ?_;(case hd=>rfl);(case hg=>rfl);(case hr=>first|(go_simp;done)|(go_simp;rfl));intro gb422 hg w11 hbox hb;have n0_:=am (blk_below (g:=gb421) (o:=.cells #[.string a0_0,.int .i64 a0_1,.int .i64 a0_2,.int .i64 a0_3,.int .i64 a0_4,.int .i64 a0_5,.int .i64 a0_6,.int .i64 a0_7] 24 (0,0)) (by (with_reducible repeat (first|apply bN|apply bD|apply bA));exact BK421.out) hb);have n1_:=am (below_step (by repeat (first|(with_reducible first|exact HB.out|apply lA|apply lN|apply lD|refine lS ?_ GE421.out)|exact HB.out)) hb);have n2_:=am (hbox);have n3_:=am ((by rw [hg];exact (below_size (by repeat (first|(with_reducible first|exact HB.out|apply lA|apply lN|apply lD|refine lS ?_ GE421.out)|exact HB.out))) : w.heap.size ≤ gb422));have n4_:=am ((by rw [hg];exact (below_size (by repeat (first|(with_reducible first|exact HB.out|apply lA|apply lN|apply lD|refine lS ?_ GE421.out)|exact HB.out))) : w.heap.size ≤ gb422));have n5_:=am ((by rw [hg];exact Nat.ne_of_lt (blk_lt (g:=gb421) (o:=.cells #[.string a0_0,.int .i64 a0_1,.int .i64 a0_2,.int .i64 a0_3,.int .i64 a0_4,.int .i64 a0_5,.int .i64 a0_6,.int .i64 a0_7] 24 (0,0)) (by (with_reducible repeat (first|apply bN|apply bD|apply bA));exact BK421.out)) : gb421 ≠ gb422));have n6_:=am ((by rw [hg];exact Nat.ne_of_gt (blk_lt (g:=gb421) (o:=.cells #[.string a0_0,.int .i64 a0_1,.int .i64 a0_2,.int .i64 a0_3,.int .i64 a0_4,.int .i64 a0_5,.int .i64 a0_6,.int .i64 a0_7] 24 (0,0)) (by (with_reducible repeat (first|apply bN|apply bD|apply bA));exact BK421.out)) : gb422 ≠ gb421));clear BK421;clear HB;have BK421:=n0_;have HB:=n1_;have BK422:=n2_;have GW422:=n3_;have GE422:=n4_;have NB421_422:=n5_;have NB422_421:=n6_;clear n0_ n1_ n2_ n3_ n4_ n5_ n6_;clear hb hbox hg;have hnb12:=NB422_421.out;have hnc12:=NB421_422.out;have hcz13_0 : w11.cell? ⟨gb422,0,none⟩ = some (.string a1_0):=(blk_cell BK422.out 0).trans rfl;have hcz13_1 : w11.cell? ⟨gb422,1,none⟩ = some (.slice A1_1 l1_1.length c1_1):=(blk_cell BK422.out 1).trans rfl;have hfz13_0:=blk_frozen BK422.out 0;have hfz13_1:=blk_frozen BK422.out 1;have hcz14_0 : w11.cell? ⟨gb421,0,none⟩ = some (.string a0_0):=(blk_cell BK421.out 0).trans rfl;have hcz14_1 : w11.cell? ⟨gb421,1,none⟩ = some (.int .i64 a0_1):=(blk_cell BK421.out 1).trans rfl;have hcz14_2 : w11.cell? ⟨gb421,2,none⟩ = some (.int .i64 a0_2):=(blk_cell BK421.out 2).trans rfl;have hcz14_3 : w11.cell? ⟨gb421,3,none⟩ = some (.int .i64 a0_3):=(blk_cell BK421.out 3).trans rfl;have hcz14_4 : w11.cell? ⟨gb421,4,none⟩ = some (.int .i64 a0_4):=(blk_cell BK421.out 4).trans rfl;have hcz14_5 : w11.cell? ⟨gb421,5,none⟩ = some (.int .i64 a0_5):=(blk_cell BK421.out 5).trans rfl;have hcz14_6 : w11.cell? ⟨gb421,6,none⟩ = some (.int .i64 a0_6):=(blk_cell BK421.out 6).trans rfl;have hcz14_7 : w11.cell? ⟨gb421,7,none⟩ = some (.int .i64 a0_7):=(blk_cell BK421.out 7).trans rfl;have hfz14_0:=blk_frozen BK421.out 0;have hfz14_1:=blk_frozen BK421.out 1;have hfz14_2:=blk_frozen BK421.out 2;have hfz14_3:=blk_frozen BK421.out 3;have hfz14_4:=blk_frozen BK421.out 4;have hfz14_5:=blk_frozen BK421.out 5;have hfz14_6:=blk_frozen BK421.out 6;have hfz14_7:=blk_frozen BK421.out 7)|((with_reducible refine gate_callee (f:=34) rfl ?_);refine goesL_ (some 21) rfl rfl Try.func34 (by kernel_rfl) rfl #[.string a0_0] rfl (by (try simp only [mT,mC,mN]);first|done|rfl|(simp only [lDr,lTk];rfl)) ?_;(with_reducible refine (gangsawref09_Name.calls k a0_0 t423 _ A9.out).mono ?_);rintro e w' ⟨rfl,⟨nd,rfl⟩⟩;refine ⟨_,rfl, ?_⟩))
  go_loopg [9,10] k (fun kq v9 v10 w'=>∃ (x9_1 : Bool) (x10_1 : Int),v9 = .bool x9_1 ∧ v10 = .int .i64 x10_1 ∧ Aside0 (gangsawref54_Moments.l0 kq a2 x9_1 x10_1 a0_0 a0_1 a0_2 a0_3 a0_4 a0_5 a0_6 a0_7 a1_0 l1_1 = some (r1,r2,r3)) ∧ Aside0 (kq ≤ k) ∧ Aside0 (w'.heap[gb421]? = some (.cells #[.string a0_0,.int .i64 a0_1,.int .i64 a0_2,.int .i64 a0_3,.int .i64 a0_4,.int .i64 a0_5,.int .i64 a0_6,.int .i64 a0_7] 24 (0,0))) ∧ Aside0 (w'.heap[gb422]? = some (.cells #[.string a1_0,(.slice A1_1 l1_1.length c1_1)] 47 (0,0))) ∧ Aside0 (Below w.heap.size w w'))
  case atStart=>exact ⟨(t423),(0),(by first|rfl|(simp;done)|(simp [*];done)),(by first|rfl|(simp;done)|(simp [*];done)),H',⟨Nat.le_refl _⟩,⟨by (with_reducible repeat (first|apply bN|apply bD|apply bA));exact BK421.out⟩,⟨by (with_reducible repeat (first|apply bN|apply bD|apply bA));exact BK422.out⟩,⟨by repeat (first|(with_reducible first|exact HB.out|apply lA|apply lN|apply lD|refine lS ?_ GE421.out|refine lS ?_ GE422.out)|exact HB.out)⟩⟩
  case round =>
   clear H'
   try clear c1
   try clear c2
   try clear p2
   try clear c3
   try clear c4
   try clear c4b0
   try clear c4b1
   try clear c7
   try clear c12
   try clear hcz13_0
   try clear hcz13_1
   try clear hcz14_0
   try clear hcz14_1
   try clear hcz14_2
   try clear hcz14_3
   try clear hcz14_4
   try clear hcz14_5
   try clear hcz14_6
   try clear hcz14_7
   try clear hcz8_0
   try clear hcz8_1
   try clear hfz13_0
   try clear hfz13_1
   try clear hfz14_0
   try clear hfz14_1
   try clear hfz14_2
   try clear hfz14_3
   try clear hfz14_4
   try clear hfz14_5
   try clear hfz14_6
   try clear hfz14_7
   try clear hfz8_0
   try clear hfz8_1
   obtain ⟨x9_1,x10_1,rfl,rfl,HA,HK1,BK421,BK422,HB⟩ := hrel
   cases gk with
   | zero=>exact absurd HA.out (by simp [gangsawref54_Moments.l0])
   | succ k1 =>
    have H:=HA.out;clear HA;simp only [gangsawref54_Moments.l0] at H;by_cases c15 : x10_1 < (l1_1.length : Int)
    ·rw [if_pos c15] at H;have c15b0 : decide (x10_1 < (l1_1.length : Int)) = true:=decide_eq_true c15;clear c15;by_cases c16 : x9_1 = true
     ·subst c16
      have H1 : (if 0 ≤ x10_1 then ((gangsawref09_Name.f k1 ((rd_T61 l1_1 x10_1).f0)).bind fun t425=>(gangsawref54_Moments.l0 k1 a2 t425 (wrap64 (x10_1 + 1)) a0_0 a0_1 a0_2 a0_3 a0_4 a0_5 a0_6 a0_7 a1_0 l1_1)) else (none)) = some (r1,r2,r3):=by rw [if_pos rfl] at H;exact H
      clear H;have H:=H1;clear H1;by_cases c17 : 0 ≤ x10_1
      ·rw [if_pos c17] at H;have c17b0 : decide (0 ≤ x10_1) = true:=decide_eq_true c17;clear c17;replace H:=Option.bind_eq_some_iff.mp H;obtain ⟨t425,A180,H⟩ := H;replace H : (gangsawref54_Moments.l0 k1 a2 t425 (wrap64 (x10_1 + 1)) a0_0 a0_1 a0_2 a0_3 a0_4 a0_5 a0_6 a0_7 a1_0 l1_1) = some (r1,r2,r3):=H;have A18:=am A180;clear A180;have H':=am H;clear H;have hnb19:=NB422_421.out;have hnc19:=NB421_422.out;have hcz20_0 : wr.cell? ⟨gb422,0,none⟩ = some (.string a1_0):=(blk_cell BK422.out 0).trans rfl;have hcz20_1 : wr.cell? ⟨gb422,1,none⟩ = some (.slice A1_1 l1_1.length c1_1):=(blk_cell BK422.out 1).trans rfl;have hfz20_0:=blk_frozen BK422.out 0;have hfz20_1:=blk_frozen BK422.out 1;have p424 : 0 ≤ (x10_1 : Int):=of_decide_eq_true (by first|(with_reducible assumption)|assumption);have q424 : x10_1 < (l1_1.length : Int):=of_decide_eq_true (by first|(with_reducible assumption)|assumption);obtain ⟨ad424,e424,hx424_0,hx424_1,hx424_2,hx424_3⟩ := at_T61 HR1_1.out x10_1 p424 q424
       cases e424
       replace hx424_0:=(HB.out.cell (World.block_lt_of_cell? w _ hx424_0)).trans hx424_0;replace hx424_1:=(HB.out.cell (World.block_lt_of_cell? w _ hx424_1)).trans hx424_1;replace hx424_2:=(HB.out.cell (World.block_lt_of_cell? w _ hx424_2)).trans hx424_2;replace hx424_3:=(HB.out.cell (World.block_lt_of_cell? w _ hx424_3)).trans hx424_3;replace p424:=eq_true p424;replace q424:=eq_true q424
       go_wp2_with (first|(go_at_call 34;(with_reducible refine (gangsawref09_Name.calls k1 ((rd_T61 l1_1 x10_1).f0) t425 _ A18.out).mono ?_);rintro e w' ⟨rfl,⟨nd,rfl⟩⟩))
       go_roundg k1
       case measure=>have:=HK1.out;omega
       case rel=>exact ⟨(t425),(wrap64 (x10_1 + 1)),(by first|rfl|(simp;done)|(simp [*];done)),(by first|rfl|(simp;done)|(simp [*];done)),H',⟨by have:=HK1.out;omega⟩,⟨by (with_reducible repeat (first|apply bN|apply bD|apply bA));exact BK421.out⟩,⟨by (with_reducible repeat (first|apply bN|apply bD|apply bA));exact BK422.out⟩,⟨by repeat (first|(with_reducible first|exact HB.out|apply lA|apply lN|apply lD|refine lS ?_ GE421.out|refine lS ?_ GE422.out)|exact HB.out)⟩⟩
      (rw [if_neg c17] at H;exact absurd H (by simp))
     ·replace c16:=Bool.eq_false_iff.mpr c16;subst c16
      have H1 : (gangsawref54_Moments.l0 k1 a2 false (wrap64 (x10_1 + 1)) a0_0 a0_1 a0_2 a0_3 a0_4 a0_5 a0_6 a0_7 a1_0 l1_1) = some (r1,r2,r3):=by rw [if_neg (show ¬ (false = true) by decide)] at H;exact H
      clear H;have H:=H1;clear H1;have H':=am H;clear H;have hnb21:=NB422_421.out;have hnc21:=NB421_422.out;have hcz22_0 : wr.cell? ⟨gb422,0,none⟩ = some (.string a1_0):=(blk_cell BK422.out 0).trans rfl;have hcz22_1 : wr.cell? ⟨gb422,1,none⟩ = some (.slice A1_1 l1_1.length c1_1):=(blk_cell BK422.out 1).trans rfl;have hfz22_0:=blk_frozen BK422.out 0;have hfz22_1:=blk_frozen BK422.out 1
      go_wp2
      go_roundg k1
      case measure=>have:=HK1.out;omega
      case rel=>exact ⟨(false),(wrap64 (x10_1 + 1)),(by first|rfl|(simp;done)|(simp [*];done)),(by first|rfl|(simp;done)|(simp [*];done)),H',⟨by have:=HK1.out;omega⟩,⟨by (with_reducible repeat (first|apply bN|apply bD|apply bA));exact BK421.out⟩,⟨by (with_reducible repeat (first|apply bN|apply bD|apply bA));exact BK422.out⟩,⟨by repeat (first|(with_reducible first|exact HB.out|apply lA|apply lN|apply lD|refine lS ?_ GE421.out|refine lS ?_ GE422.out)|exact HB.out)⟩⟩
    ·rw [if_neg c15] at H;have c15b0 : decide (x10_1 < (l1_1.length : Int)) = false:=decide_eq_false c15;clear c15;by_cases c23 : x9_1 = true
     ·subst c23
      have H1 : ((gangsawref54_truck.f a0_0 a0_1 a0_2 a0_3 a0_4 a0_5 a0_6 a0_7).bind fun t426=>(gangsawref54_Moments.l1 k1 a2 t426 0 a0_0 a0_1 a0_2 a0_3 a0_4 a0_5 a0_6 a0_7 a1_0 l1_1)) = some (r1,r2,r3):=by rw [if_pos rfl] at H;exact H
      clear H;have H:=H1;clear H1;replace H:=Option.bind_eq_some_iff.mp H;obtain ⟨t426,A240,H⟩ := H;replace H : (gangsawref54_Moments.l1 k1 a2 t426 0 a0_0 a0_1 a0_2 a0_3 a0_4 a0_5 a0_6 a0_7 a1_0 l1_1) = some (r1,r2,r3):=H;have A24:=am A240;clear A240;have H':=am H;clear H;have hnb25:=NB422_421.out;have hnc25:=NB421_422.out;have hcz26_0 : wr.cell? ⟨gb422,0,none⟩ = some (.string a1_0):=(blk_cell BK422.out 0).trans rfl;have hcz26_1 : wr.cell? ⟨gb422,1,none⟩ = some (.slice A1_1 l1_1.length c1_1):=(blk_cell BK422.out 1).trans rfl;have hfz26_0:=blk_frozen BK422.out 0;have hfz26_1:=blk_frozen BK422.out 1;have hcz27_0 : wr.cell? ⟨gb421,0,none⟩ = some (.string a0_0):=(blk_cell BK421.out 0).trans rfl;have hcz27_1 : wr.cell? ⟨gb421,1,none⟩ = some (.int .i64 a0_1):=(blk_cell BK421.out 1).trans rfl;have hcz27_2 : wr.cell? ⟨gb421,2,none⟩ = some (.int .i64 a0_2):=(blk_cell BK421.out 2).trans rfl;have hcz27_3 : wr.cell? ⟨gb421,3,none⟩ = some (.int .i64 a0_3):=(blk_cell BK421.out 3).trans rfl;have hcz27_4 : wr.cell? ⟨gb421,4,none⟩ = some (.int .i64 a0_4):=(blk_cell BK421.out 4).trans rfl;have hcz27_5 : wr.cell? ⟨gb421,5,none⟩ = some (.int .i64 a0_5):=(blk_cell BK421.out 5).trans rfl;have hcz27_6 : wr.cell? ⟨gb421,6,none⟩ = some (.int .i64 a0_6):=(blk_cell BK421.out 6).trans rfl;have hcz27_7 : wr.cell? ⟨gb421,7,none⟩ = some (.int .i64 a0_7):=(blk_cell BK421.out 7).trans rfl;have hfz27_0:=blk_frozen BK421.out 0;have hfz27_1:=blk_frozen BK421.out 1;have hfz27_2:=blk_frozen BK421.out 2;have hfz27_3:=blk_frozen BK421.out 3;have hfz27_4:=blk_frozen BK421.out 4;have hfz27_5:=blk_frozen BK421.out 5;have hfz27_6:=blk_frozen BK421.out 6;have hfz27_7:=blk_frozen BK421.out 7
      go_wp2_with (first|((with_reducible refine gate_callee (f:=35) rfl ?_);refine goesL_ (some 42) rfl rfl Try.func35 (by kernel_rfl) rfl #[.agg #[.string a0_0,.int .i64 a0_1,.int .i64 a0_2,.int .i64 a0_3,.int .i64 a0_4,.int .i64 a0_5,.int .i64 a0_6,.int .i64 a0_7]] rfl (by (try simp only [mT,mC,mN]);first|done|rfl|(simp only [lDr,lTk];rfl)) ?_;(with_reducible refine (gangsawref54_truck.calls a0_0 a0_1 a0_2 a0_3 a0_4 a0_5 a0_6 a0_7 t426 _ A24.out).mono ?_);rintro e w28 ⟨rfl,hb⟩;refine ⟨_,rfl, ?_⟩;have n0_:=am (blk_below (g:=gb421) (o:=.cells #[.string a0_0,.int .i64 a0_1,.int .i64 a0_2,.int .i64 a0_3,.int .i64 a0_4,.int .i64 a0_5,.int .i64 a0_6,.int .i64 a0_7] 24 (0,0)) (by (with_reducible repeat (first|apply bN|apply bD|apply bA));exact BK421.out) hb);have n1_:=am (blk_below (g:=gb422) (o:=.cells #[.string a1_0,.slice A1_1 l1_1.length c1_1] 47 (0,0)) (by (with_reducible repeat (first|apply bN|apply bD|apply bA));exact BK422.out) hb);have n2_:=am (below_step (by repeat (first|(with_reducible first|exact HB.out|apply lA|apply lN|apply lD|refine lS ?_ GE421.out|refine lS ?_ GE422.out)|exact HB.out)) hb);clear BK421;clear BK422;clear HB;have BK421:=n0_;have BK422:=n1_;have HB:=n2_;clear n0_ n1_ n2_;(try clear hb);(try clear hb2);(try clear hk);(try clear hi)))
      go_loopg [9,11] k1 (fun kq v9 v11 w'=>∃ (x9_2 : Bool) (x11_2 : Int),v9 = .bool x9_2 ∧ v11 = .int .i64 x11_2 ∧ Aside0 (gangsawref54_Moments.l1 kq a2 x9_2 x11_2 a0_0 a0_1 a0_2 a0_3 a0_4 a0_5 a0_6 a0_7 a1_0 l1_1 = some (r1,r2,r3)) ∧ Aside0 (kq ≤ k1) ∧ Aside0 (w'.heap[gb421]? = some (.cells #[.string a0_0,.int .i64 a0_1,.int .i64 a0_2,.int .i64 a0_3,.int .i64 a0_4,.int .i64 a0_5,.int .i64 a0_6,.int .i64 a0_7] 24 (0,0))) ∧ Aside0 (w'.heap[gb422]? = some (.cells #[.string a1_0,(.slice A1_1 l1_1.length c1_1)] 47 (0,0))) ∧ Aside0 (Below w.heap.size w w'))
      case atStart=>exact ⟨(t426),(0),(by first|rfl|(simp;done)|(simp [*];done)),(by first|rfl|(simp;done)|(simp [*];done)),H',⟨Nat.le_refl _⟩,⟨by (with_reducible repeat (first|apply bN|apply bD|apply bA));exact BK421.out⟩,⟨by (with_reducible repeat (first|apply bN|apply bD|apply bA));exact BK422.out⟩,⟨by repeat (first|(with_reducible first|exact HB.out|apply lA|apply lN|apply lD|refine lS ?_ GE421.out|refine lS ?_ GE422.out)|exact HB.out)⟩⟩
      case round =>
       clear H'
       try clear c1
       try clear c2
       try clear p2
       try clear c3
       try clear c4
       try clear c4b0
       try clear c4b1
       try clear p4
       try clear q4
       try clear hx4
       try clear p6
       try clear c7
       try clear c12
       try clear c15
       try clear c15b0
       try clear c16
       try clear c17
       try clear c17b0
       try clear c19
       try clear c21
       try clear c23
       try clear c25
       try clear c27
       try clear hcz13_0
       try clear hcz13_1
       try clear hcz14_0
       try clear hcz14_1
       try clear hcz14_2
       try clear hcz14_3
       try clear hcz14_4
       try clear hcz14_5
       try clear hcz14_6
       try clear hcz14_7
       try clear hcz20_0
       try clear hcz20_1
       try clear hcz22_0
       try clear hcz22_1
       try clear hcz26_0
       try clear hcz26_1
       try clear hcz27_0
       try clear hcz27_1
       try clear hcz27_2
       try clear hcz27_3
       try clear hcz27_4
       try clear hcz27_5
       try clear hcz27_6
       try clear hcz27_7
       try clear hcz8_0
       try clear hcz8_1
       try clear hfz13_0
       try clear hfz13_1
       try clear hfz14_0
       try clear hfz14_1
       try clear hfz14_2
       try clear hfz14_3
       try clear hfz14_4
       try clear hfz14_5
       try clear hfz14_6
       try clear hfz14_7
       try clear hfz20_0
       try clear hfz20_1
       try clear hfz22_0
       try clear hfz22_1
       try clear hfz26_0
       try clear hfz26_1
       try clear hfz27_0
       try clear hfz27_1
       try clear hfz27_2
       try clear hfz27_3
       try clear hfz27_4
       try clear hfz27_5
       try clear hfz27_6
       try clear hfz27_7
       try clear hfz8_0
       try clear hfz8_1
       try clear hx424_0
       try clear hx424_1
       try clear hx424_2
       try clear hx424_3
       try clear p2
       try clear p424
       try clear q424
       obtain ⟨x9_2,x11_2,rfl,rfl,HA,HK2,BK421,BK422,HB⟩ := hrel
       cases gk with
       | zero=>exact absurd HA.out (by simp [gangsawref54_Moments.l1])
       | succ k2 =>
        have H:=HA.out;clear HA;simp only [gangsawref54_Moments.l1] at H;by_cases c29 : x11_2 < (l1_1.length : Int)
        ·rw [if_pos c29] at H;have c29b0 : decide (x11_2 < (l1_1.length : Int)) = true:=decide_eq_true c29;clear c29;by_cases c30 : x9_2 = true
         ·subst c30
          have H1 : (if 0 ≤ x11_2 then ((gangsawref54_in.f ((rd_T61 l1_1 x11_2).f2) 1 30000).bind fun t428=>(if t428 = true then ((gangsawref54_in.f ((rd_T61 l1_1 x11_2).f3) 1 1000000000).bind fun t430=>(gangsawref54_Moments.l1 k2 a2 t430 (wrap64 (x11_2 + 1)) a0_0 a0_1 a0_2 a0_3 a0_4 a0_5 a0_6 a0_7 a1_0 l1_1)) else (gangsawref54_Moments.l1 k2 a2 false (wrap64 (x11_2 + 1)) a0_0 a0_1 a0_2 a0_3 a0_4 a0_5 a0_6 a0_7 a1_0 l1_1))) else (none)) = some (r1,r2,r3):=by rw [if_pos rfl] at H;exact H
          clear H;have H:=H1;clear H1;by_cases c31 : 0 ≤ x11_2
          ·rw [if_pos c31] at H;have c31b0 : decide (0 ≤ x11_2) = true:=decide_eq_true c31;clear c31;replace H:=Option.bind_eq_some_iff.mp H;obtain ⟨t428,A320,H⟩ := H;replace H : (if t428 = true then ((gangsawref54_in.f ((rd_T61 l1_1 x11_2).f3) 1 1000000000).bind fun t430=>(gangsawref54_Moments.l1 k2 a2 t430 (wrap64 (x11_2 + 1)) a0_0 a0_1 a0_2 a0_3 a0_4 a0_5 a0_6 a0_7 a1_0 l1_1)) else (gangsawref54_Moments.l1 k2 a2 false (wrap64 (x11_2 + 1)) a0_0 a0_1 a0_2 a0_3 a0_4 a0_5 a0_6 a0_7 a1_0 l1_1)) = some (r1,r2,r3):=H;have A32:=am A320;clear A320;by_cases c33 : t428 = true
           ·subst c33
            have H1 : ((gangsawref54_in.f ((rd_T61 l1_1 x11_2).f3) 1 1000000000).bind fun t430=>(gangsawref54_Moments.l1 k2 a2 t430 (wrap64 (x11_2 + 1)) a0_0 a0_1 a0_2 a0_3 a0_4 a0_5 a0_6 a0_7 a1_0 l1_1)) = some (r1,r2,r3):=by rw [if_pos rfl] at H;exact H
            clear H;have H:=H1;clear H1;replace H:=Option.bind_eq_some_iff.mp H;obtain ⟨t430,A340,H⟩ := H;replace H : (gangsawref54_Moments.l1 k2 a2 t430 (wrap64 (x11_2 + 1)) a0_0 a0_1 a0_2 a0_3 a0_4 a0_5 a0_6 a0_7 a1_0 l1_1) = some (r1,r2,r3):=H;have A34:=am A340;clear A340;have H':=am H;clear H;have hnb35:=NB422_421.out;have hnc35:=NB421_422.out;have hcz36_0 : wr.cell? ⟨gb422,0,none⟩ = some (.string a1_0):=(blk_cell BK422.out 0).trans rfl;have hcz36_1 : wr.cell? ⟨gb422,1,none⟩ = some (.slice A1_1 l1_1.length c1_1):=(blk_cell BK422.out 1).trans rfl;have hfz36_0:=blk_frozen BK422.out 0;have hfz36_1:=blk_frozen BK422.out 1;have p427 : 0 ≤ (x11_2 : Int):=of_decide_eq_true (by first|(with_reducible assumption)|assumption);have q427 : x11_2 < (l1_1.length : Int):=of_decide_eq_true (by first|(with_reducible assumption)|assumption);obtain ⟨ad427,e427,hx427_0,hx427_1,hx427_2,hx427_3⟩ := at_T61 HR1_1.out x11_2 p427 q427
            cases e427
            replace hx427_0:=(HB.out.cell (World.block_lt_of_cell? w _ hx427_0)).trans hx427_0;replace hx427_1:=(HB.out.cell (World.block_lt_of_cell? w _ hx427_1)).trans hx427_1;replace hx427_2:=(HB.out.cell (World.block_lt_of_cell? w _ hx427_2)).trans hx427_2;replace hx427_3:=(HB.out.cell (World.block_lt_of_cell? w _ hx427_3)).trans hx427_3;replace p427:=eq_true p427;replace q427:=eq_true q427
            go_wp2_with (first|(go_at_call 36;(with_reducible refine (gangsawref54_in.calls ((rd_T61 l1_1 x11_2).f2) 1 30000 true _ A32.out).mono ?_);rintro e w' ⟨rfl,⟨nd,rfl⟩⟩;have p429 : 0 ≤ (x11_2 : Int):=of_decide_eq_true (by first|(with_reducible assumption)|assumption);have q429 : x11_2 < (l1_1.length : Int):=of_decide_eq_true (by first|(with_reducible assumption)|assumption);obtain ⟨ad429,e429,hx429_0,hx429_1,hx429_2,hx429_3⟩ := at_T61 HR1_1.out x11_2 p429 q429;obtain rfl : ad427 = ad429:=(by injection e429);replace hx429_0:=(HB.out.cell (World.block_lt_of_cell? w _ hx429_0)).trans hx429_0;replace hx429_1:=(HB.out.cell (World.block_lt_of_cell? w _ hx429_1)).trans hx429_1;replace hx429_2:=(HB.out.cell (World.block_lt_of_cell? w _ hx429_2)).trans hx429_2;replace hx429_3:=(HB.out.cell (World.block_lt_of_cell? w _ hx429_3)).trans hx429_3;replace p429:=eq_true p429;replace q429:=eq_true q429)|(go_at_call 36;(with_reducible refine (gangsawref54_in.calls ((rd_T61 l1_1 x11_2).f3) 1 1000000000 t430 _ A34.out).mono ?_);rintro e w' ⟨rfl,⟨nd,rfl⟩⟩))
            go_roundg k2
            case measure=>have:=HK1.out;have:=HK2.out;omega
            case rel=>exact ⟨(t430),(wrap64 (x11_2 + 1)),(by first|rfl|(simp;done)|(simp [*];done)),(by first|rfl|(simp;done)|(simp [*];done)),H',⟨by have:=HK1.out;have:=HK2.out;omega⟩,⟨by (with_reducible repeat (first|apply bN|apply bD|apply bA));exact BK421.out⟩,⟨by (with_reducible repeat (first|apply bN|apply bD|apply bA));exact BK422.out⟩,⟨by repeat (first|(with_reducible first|exact HB.out|apply lA|apply lN|apply lD|refine lS ?_ GE421.out|refine lS ?_ GE422.out)|exact HB.out)⟩⟩
           ·replace c33:=Bool.eq_false_iff.mpr c33;subst c33
            have H1 : (gangsawref54_Moments.l1 k2 a2 false (wrap64 (x11_2 + 1)) a0_0 a0_1 a0_2 a0_3 a0_4 a0_5 a0_6 a0_7 a1_0 l1_1) = some (r1,r2,r3):=by rw [if_neg (show ¬ (false = true) by decide)] at H;exact H
            clear H;have H:=H1;clear H1;have H':=am H;clear H;have hnb37:=NB422_421.out;have hnc37:=NB421_422.out;have hcz38_0 : wr.cell? ⟨gb422,0,none⟩ = some (.string a1_0):=(blk_cell BK422.out 0).trans rfl;have hcz38_1 : wr.cell? ⟨gb422,1,none⟩ = some (.slice A1_1 l1_1.length c1_1):=(blk_cell BK422.out 1).trans rfl;have hfz38_0:=blk_frozen BK422.out 0;have hfz38_1:=blk_frozen BK422.out 1;have p427 : 0 ≤ (x11_2 : Int):=of_decide_eq_true (by first|(with_reducible assumption)|assumption);have q427 : x11_2 < (l1_1.length : Int):=of_decide_eq_true (by first|(with_reducible assumption)|assumption);obtain ⟨ad427,e427,hx427_0,hx427_1,hx427_2,hx427_3⟩ := at_T61 HR1_1.out x11_2 p427 q427
            cases e427
            replace hx427_0:=(HB.out.cell (World.block_lt_of_cell? w _ hx427_0)).trans hx427_0;replace hx427_1:=(HB.out.cell (World.block_lt_of_cell? w _ hx427_1)).trans hx427_1;replace hx427_2:=(HB.out.cell (World.block_lt_of_cell? w _ hx427_2)).trans hx427_2;replace hx427_3:=(HB.out.cell (World.block_lt_of_cell? w _ hx427_3)).trans hx427_3;replace p427:=eq_true p427;replace q427:=eq_true q427
            go_wp2_with (first|(go_at_call 36;(with_reducible refine (gangsawref54_in.calls ((rd_T61 l1_1 x11_2).f2) 1 30000 false _ A32.out).mono ?_);rintro e w' ⟨rfl,⟨nd,rfl⟩⟩))
            go_roundg k2
            case measure=>have:=HK1.out;have:=HK2.out;omega
            case rel=>exact ⟨(false),(wrap64 (x11_2 + 1)),(by first|rfl|(simp;done)|(simp [*];done)),(by first|rfl|(simp;done)|(simp [*];done)),H',⟨by have:=HK1.out;have:=HK2.out;omega⟩,⟨by (with_reducible repeat (first|apply bN|apply bD|apply bA));exact BK421.out⟩,⟨by (with_reducible repeat (first|apply bN|apply bD|apply bA));exact BK422.out⟩,⟨by repeat (first|(with_reducible first|exact HB.out|apply lA|apply lN|apply lD|refine lS ?_ GE421.out|refine lS ?_ GE422.out)|exact HB.out)⟩⟩
          (rw [if_neg c31] at H;exact absurd H (by simp))
         ·replace c30:=Bool.eq_false_iff.mpr c30;subst c30
          have H1 : (gangsawref54_Moments.l1 k2 a2 false (wrap64 (x11_2 + 1)) a0_0 a0_1 a0_2 a0_3 a0_4 a0_5 a0_6 a0_7 a1_0 l1_1) = some (r1,r2,r3):=by rw [if_neg (show ¬ (false = true) by decide)] at H;exact H
          clear H;have H:=H1;clear H1;have H':=am H;clear H;have hnb39:=NB422_421.out;have hnc39:=NB421_422.out;have hcz40_0 : wr.cell? ⟨gb422,0,none⟩ = some (.string a1_0):=(blk_cell BK422.out 0).trans rfl;have hcz40_1 : wr.cell? ⟨gb422,1,none⟩ = some (.slice A1_1 l1_1.length c1_1):=(blk_cell BK422.out 1).trans rfl;have hfz40_0:=blk_frozen BK422.out 0;have hfz40_1:=blk_frozen BK422.out 1
          go_wp2
          go_roundg k2
          case measure=>have:=HK1.out;have:=HK2.out;omega
          case rel=>exact ⟨(false),(wrap64 (x11_2 + 1)),(by first|rfl|(simp;done)|(simp [*];done)),(by first|rfl|(simp;done)|(simp [*];done)),H',⟨by have:=HK1.out;have:=HK2.out;omega⟩,⟨by (with_reducible repeat (first|apply bN|apply bD|apply bA));exact BK421.out⟩,⟨by (with_reducible repeat (first|apply bN|apply bD|apply bA));exact BK422.out⟩,⟨by repeat (first|(with_reducible first|exact HB.out|apply lA|apply lN|apply lD|refine lS ?_ GE421.out|refine lS ?_ GE422.out)|exact HB.out)⟩⟩
        ·rw [if_neg c29] at H;have c29b0 : decide (x11_2 < (l1_1.length : Int)) = false:=decide_eq_false c29;clear c29;by_cases c41 : x9_2 = true
         ·subst c41
          have H1 : (gangsawref54_Moments.l2 k2 a2 0 a0_0 a0_1 a0_2 a0_3 a0_4 a0_5 a0_6 a0_7 a1_0 l1_1) = some (r1,r2,r3):=by rw [if_pos rfl] at H;exact H
          clear H;have H:=H1;clear H1;have H':=am H;clear H;have hnb42:=NB422_421.out;have hnc42:=NB421_422.out;have hcz43_0 : wr.cell? ⟨gb422,0,none⟩ = some (.string a1_0):=(blk_cell BK422.out 0).trans rfl;have hcz43_1 : wr.cell? ⟨gb422,1,none⟩ = some (.slice A1_1 l1_1.length c1_1):=(blk_cell BK422.out 1).trans rfl;have hfz43_0:=blk_frozen BK422.out 0;have hfz43_1:=blk_frozen BK422.out 1
          go_wp2
          go_loopg [12] k2 (fun kq v12 w'=>∃ (x12_3 : Int),v12 = .int .i64 x12_3 ∧ Aside0 (gangsawref54_Moments.l2 kq a2 x12_3 a0_0 a0_1 a0_2 a0_3 a0_4 a0_5 a0_6 a0_7 a1_0 l1_1 = some (r1,r2,r3)) ∧ Aside0 (kq ≤ k2) ∧ Aside0 (w'.heap[gb421]? = some (.cells #[.string a0_0,.int .i64 a0_1,.int .i64 a0_2,.int .i64 a0_3,.int .i64 a0_4,.int .i64 a0_5,.int .i64 a0_6,.int .i64 a0_7] 24 (0,0))) ∧ Aside0 (w'.heap[gb422]? = some (.cells #[.string a1_0,(.slice A1_1 l1_1.length c1_1)] 47 (0,0))) ∧ Aside0 (Below w.heap.size w w'))
          case atStart=>exact ⟨(0),(by first|rfl|(simp;done)|(simp [*];done)),H',⟨Nat.le_refl _⟩,⟨by (with_reducible repeat (first|apply bN|apply bD|apply bA));exact BK421.out⟩,⟨by (with_reducible repeat (first|apply bN|apply bD|apply bA));exact BK422.out⟩,⟨by repeat (first|(with_reducible first|exact HB.out|apply lA|apply lN|apply lD|refine lS ?_ GE421.out|refine lS ?_ GE422.out)|exact HB.out)⟩⟩
          case round =>
           clear H'
           try clear c1
           try clear c2
           try clear p2
           try clear c3
           try clear c4
           try clear c4b0
           try clear c4b1
           try clear p4
           try clear q4
           try clear hx4
           try clear p6
           try clear c7
           try clear c12
           try clear c15
           try clear c15b0
           try clear c16
           try clear c17
           try clear c17b0
           try clear c19
           try clear c21
           try clear c23
           try clear c25
           try clear c27
           try clear c29
           try clear c29b0
           try clear c30
           try clear c31
           try clear c31b0
           try clear c33
           try clear c34
           try clear c35
           try clear c37
           try clear c39
           try clear c41
           try clear c42
           try clear p42
           try clear q42
           try clear hx42
           try clear hcz13_0
           try clear hcz13_1
           try clear hcz14_0
           try clear hcz14_1
           try clear hcz14_2
           try clear hcz14_3
           try clear hcz14_4
           try clear hcz14_5
           try clear hcz14_6
           try clear hcz14_7
           try clear hcz20_0
           try clear hcz20_1
           try clear hcz22_0
           try clear hcz22_1
           try clear hcz26_0
           try clear hcz26_1
           try clear hcz27_0
           try clear hcz27_1
           try clear hcz27_2
           try clear hcz27_3
           try clear hcz27_4
           try clear hcz27_5
           try clear hcz27_6
           try clear hcz27_7
           try clear hcz36_0
           try clear hcz36_1
           try clear hcz38_0
           try clear hcz38_1
           try clear hcz40_0
           try clear hcz40_1
           try clear hcz43_0
           try clear hcz43_1
           try clear hcz8_0
           try clear hcz8_1
           try clear hfz13_0
           try clear hfz13_1
           try clear hfz14_0
           try clear hfz14_1
           try clear hfz14_2
           try clear hfz14_3
           try clear hfz14_4
           try clear hfz14_5
           try clear hfz14_6
           try clear hfz14_7
           try clear hfz20_0
           try clear hfz20_1
           try clear hfz22_0
           try clear hfz22_1
           try clear hfz26_0
           try clear hfz26_1
           try clear hfz27_0
           try clear hfz27_1
           try clear hfz27_2
           try clear hfz27_3
           try clear hfz27_4
           try clear hfz27_5
           try clear hfz27_6
           try clear hfz27_7
           try clear hfz36_0
           try clear hfz36_1
           try clear hfz38_0
           try clear hfz38_1
           try clear hfz40_0
           try clear hfz40_1
           try clear hfz43_0
           try clear hfz43_1
           try clear hfz8_0
           try clear hfz8_1
           try clear hx424_0
           try clear hx424_1
           try clear hx424_2
           try clear hx424_3
           try clear hx427_0
           try clear hx427_1
           try clear hx427_2
           try clear hx427_3
           try clear hx429_0
           try clear hx429_1
           try clear hx429_2
           try clear hx429_3
           try clear p2
           try clear p4
           try clear p424
           try clear p427
           try clear p429
           try clear p6
           try clear q4
           try clear q424
           try clear q427
           try clear q429
           obtain ⟨x12_3,rfl,HA,HK3,BK421,BK422,HB⟩ := hrel
           cases gk with
           | zero=>exact absurd HA.out (by simp [gangsawref54_Moments.l2])
           | succ k3 =>
            have H:=HA.out;clear HA;simp only [gangsawref54_Moments.l2] at H;by_cases c44 : x12_3 < (l1_1.length : Int)
            ·rw [if_pos c44] at H;have c44b0 : decide (x12_3 < (l1_1.length : Int)) = true:=decide_eq_true c44;clear c44;by_cases c45 : 0 ≤ x12_3
             ·rw [if_pos c45] at H;have c45b0 : decide (0 ≤ x12_3) = true:=decide_eq_true c45;clear c45;replace H:=Option.bind_eq_some_iff.mp H;obtain ⟨t432,A460,H⟩ := H;replace H : (if t432 = true then (gangsawref54_Moments.l2 k3 a2 (wrap64 (x12_3 + 1)) a0_0 a0_1 a0_2 a0_3 a0_4 a0_5 a0_6 a0_7 a1_0 l1_1) else (some (0,0,12))) = some (r1,r2,r3):=H;have A46:=am A460;clear A460;by_cases c47 : t432 = true
              ·subst c47
               have H1 : (gangsawref54_Moments.l2 k3 a2 (wrap64 (x12_3 + 1)) a0_0 a0_1 a0_2 a0_3 a0_4 a0_5 a0_6 a0_7 a1_0 l1_1) = some (r1,r2,r3):=by rw [if_pos rfl] at H;exact H
               clear H;have H:=H1;clear H1;have H':=am H;clear H;have hnb48:=NB422_421.out;have hnc48:=NB421_422.out;have hcz49_0 : wr.cell? ⟨gb422,0,none⟩ = some (.string a1_0):=(blk_cell BK422.out 0).trans rfl;have hcz49_1 : wr.cell? ⟨gb422,1,none⟩ = some (.slice A1_1 l1_1.length c1_1):=(blk_cell BK422.out 1).trans rfl;have hfz49_0:=blk_frozen BK422.out 0;have hfz49_1:=blk_frozen BK422.out 1
               try go_wp2
               have n0_:=am (blk_drew BK421.out);have n1_:=am (blk_drew BK422.out);have n2_:=am (below_drew1 HB.out);clear BK421;clear BK422;clear HB;have BK421:=n0_;have BK422:=n1_;have HB:=n2_;clear n0_ n1_ n2_;have p431 : 0 ≤ (x12_3 : Int):=of_decide_eq_true (by first|(with_reducible assumption)|assumption);have q431 : x12_3 < (l1_1.length : Int):=of_decide_eq_true (by first|(with_reducible assumption)|assumption);obtain ⟨ad431,e431,hx431_0,hx431_1,hx431_2,hx431_3⟩ := at_T61 HR1_1.out x12_3 p431 q431;have hw431_3:=hx431_3;have hw431_2:=hx431_2;have hw431_1:=hx431_1;have hw431_0:=hx431_0
               cases e431
               replace hx431_0:=(HB.out.cell (World.block_lt_of_cell? w _ hx431_0)).trans hx431_0;replace hx431_1:=(HB.out.cell (World.block_lt_of_cell? w _ hx431_1)).trans hx431_1;replace hx431_2:=(HB.out.cell (World.block_lt_of_cell? w _ hx431_2)).trans hx431_2;replace hx431_3:=(HB.out.cell (World.block_lt_of_cell? w _ hx431_3)).trans hx431_3;replace p431:=eq_true p431;replace q431:=eq_true q431
               refine start_ (n:=8) (S:=fun w'=>w'.cell? ⟨gb421,0,none⟩ = some (.string a0_0) ∧ w'.cell? ⟨gb421,1,none⟩ = some (.int .i64 a0_1) ∧ w'.cell? ⟨gb421,2,none⟩ = some (.int .i64 a0_2) ∧ w'.cell? ⟨gb421,3,none⟩ = some (.int .i64 a0_3) ∧ w'.cell? ⟨gb421,4,none⟩ = some (.int .i64 a0_4) ∧ w'.cell? ⟨gb421,5,none⟩ = some (.int .i64 a0_5) ∧ w'.cell? ⟨gb421,6,none⟩ = some (.int .i64 a0_6) ∧ w'.cell? ⟨gb421,7,none⟩ = some (.int .i64 a0_7) ∧ w'.cell? ⟨gb422,0,none⟩ = some (.string a1_0) ∧ w'.cell? ⟨gb422,1,none⟩ = some (.slice (some ad431) l1_1.length c1_1) ∧ w'.cell? (ad431.add ((x12_3).toNat * 4)) = some (.string ((rd_T61 l1_1 x12_3).f0)) ∧ w'.cell? ⟨(ad431.add ((x12_3).toNat * 4)).block,(ad431.add ((x12_3).toNat * 4)).off + 1,none⟩ = some (.int .i64 ((rd_T61 l1_1 x12_3).f1)) ∧ w'.cell? ⟨(ad431.add ((x12_3).toNat * 4)).block,(ad431.add ((x12_3).toNat * 4)).off + 2,none⟩ = some (.int .i64 ((rd_T61 l1_1 x12_3).f2)) ∧ w'.cell? ⟨(ad431.add ((x12_3).toNat * 4)).block,(ad431.add ((x12_3).toNat * 4)).off + 3,none⟩ = some (.int .i64 ((rd_T61 l1_1 x12_3).f3))) (ds:=[]) #[f_,f_,f_,f_,f_,f_,f_,f_] (by kernel_rfl) rfl rfl ⟨(blk_cell BK421.out 0).trans rfl,(blk_cell BK421.out 1).trans rfl,(blk_cell BK421.out 2).trans rfl,(blk_cell BK421.out 3).trans rfl,(blk_cell BK421.out 4).trans rfl,(blk_cell BK421.out 5).trans rfl,(blk_cell BK421.out 6).trans rfl,(blk_cell BK421.out 7).trans rfl,(blk_cell BK422.out 0).trans rfl,(blk_cell BK422.out 1).trans rfl,((HB.out.cell (World.block_lt_of_cell? w _ hw431_0)).trans hw431_0),((HB.out.cell (World.block_lt_of_cell? w _ hw431_1)).trans hw431_1),((HB.out.cell (World.block_lt_of_cell? w _ hw431_2)).trans hw431_2),((HB.out.cell (World.block_lt_of_cell? w _ hw431_3)).trans hw431_3)⟩ (fun hHeld=>?_);refine with_tabW gangsawref54_Moments.tab20 gangsawref54_Moments.bits20 (fun HT_ HW_=>?_)
               generalize wr.drew = w50 at BK421 BK422 HB hx431_0 hx431_1 hx431_2 hx431_3 hHeld ⊢;refine pure_ (i:=1) (N:=some 79) (v:=?_) (a':=?_) #[f_,t_,f_,f_,f_,f_,f_,f_] rfl rfl (any_of HT_.out (by kernel_rfl)) (fun _ _ _ h=>h) (Or.inl ⟨by rfl, ?_⟩) ?_ ?_;rotate_left;(intro w';go_simp;with_reducible rfl);rotate_left;(simp only [Act.put,sA,s0,sS,i64_w,i32_w];rfl);refine pure_ (i:=3) (N:=some 81) (v:=?_) (a':=?_) #[f_,t_,f_,t_,f_,f_,f_,f_] rfl rfl (any_of HT_.out (by kernel_rfl)) (fun _ _ _ h=>h) (Or.inl ⟨by rfl, ?_⟩) ?_ ?_;rotate_left;(intro w';go_simp;with_reducible rfl);rotate_left;(simp only [Act.put,sA,s0,sS,i64_w,i32_w];rfl);refine take_ (i:=0) (N:=some 78) (v:=?_) (a':=?_) #[t_,t_,f_,t_,f_,f_,f_,f_] rfl rfl (take_ofW HT_.out HW_.out (by kernel_rfl)) (fun _ _ _ h=>h) (Or.inl ⟨by rfl, ?_⟩) hHeld ?_ ?_;rotate_left;(rintro w' ⟨s0,s1,s2,s3,s4,s5,s6,s7,s8,s9,s10,s11,s12,s13⟩;go_simp;with_reducible rfl);rotate_left;(simp only [Act.put,sA,s0,sS,i64_w,i32_w];rfl);refine take_ (i:=2) (N:=some 80) (v:=?_) (a':=?_) #[t_,t_,t_,t_,f_,f_,f_,f_] rfl rfl (take_ofW HT_.out HW_.out (by kernel_rfl)) (fun _ _ _ h=>h) (Or.inl ⟨by rfl, ?_⟩) hHeld ?_ ?_;rotate_left;(rintro w' ⟨s0,s1,s2,s3,s4,s5,s6,s7,s8,s9,s10,s11,s12,s13⟩;go_simp;with_reducible rfl);rotate_left;(simp only [Act.put,sA,s0,sS,i64_w,i32_w];rfl);refine pure_ (i:=4) (N:=some 82) (v:=?_) (a':=?_) #[t_,t_,t_,t_,t_,f_,f_,f_] rfl rfl (any_of HT_.out (by kernel_rfl)) (fun _ _ _ h=>h) (Or.inl ⟨by rfl, ?_⟩) ?_ ?_;rotate_left;(intro w';go_simp;with_reducible rfl);rotate_left;(simp only [Act.put,sA,s0,sS,i64_w,i32_w];rfl);refine take_ (i:=5) (N:=some 83) (v:=?_) (a':=?_) #[t_,t_,t_,t_,t_,t_,f_,f_] rfl rfl (take_ofW HT_.out HW_.out (by kernel_rfl)) (fun _ _ _ h=>h) (Or.inl ⟨by rfl, ?_⟩) hHeld ?_ ?_;rotate_left;(rintro w' ⟨s0,s1,s2,s3,s4,s5,s6,s7,s8,s9,s10,s11,s12,s13⟩;go_simp;with_reducible rfl);rotate_left;(simp only [Act.put,sA,s0,sS,i64_w,i32_w];rfl);refine one_ (i:=6) (N:=some 84) #[t_,t_,t_,t_,t_,t_,t_,f_] rfl rfl (one_of HT_.out (by kernel_rfl)) (by decide) (fun K hK=>?_);refine goes_ Try.func54 (by kernel_rfl) rfl #[.agg #[.string a0_0,.int .i64 a0_1,.int .i64 a0_2,.int .i64 a0_3,.int .i64 a0_4,.int .i64 a0_5,.int .i64 a0_6,.int .i64 a0_7],.agg #[.string ((rd_T61 l1_1 x12_3).f0),.int .i64 ((rd_T61 l1_1 x12_3).f1),.int .i64 ((rd_T61 l1_1 x12_3).f2),.int .i64 ((rd_T61 l1_1 x12_3).f3)]] (by rfl) rfl rfl (by (try simp only [mT,mC,mN]);first|done|rfl|(simp only [lDr,lTk];rfl)) ?_
               with_reducible refine (gangsawref54_onBed.calls a0_0 a0_1 a0_2 a0_3 a0_4 a0_5 a0_6 a0_7 ((rd_T61 l1_1 x12_3).f0) ((rd_T61 l1_1 x12_3).f1) ((rd_T61 l1_1 x12_3).f2) ((rd_T61 l1_1 x12_3).f3) true _ A46.out).mono ?_
               rintro e w51 ⟨rfl,hb⟩;refine ⟨_,rfl, ?_⟩;have n0_:=am (blk_below (g:=gb421) (o:=.cells #[.string a0_0,.int .i64 a0_1,.int .i64 a0_2,.int .i64 a0_3,.int .i64 a0_4,.int .i64 a0_5,.int .i64 a0_6,.int .i64 a0_7] 24 (0,0)) (by (with_reducible repeat (first|apply bN|apply bD|apply bA));exact BK421.out) hb);have n1_:=am (blk_below (g:=gb422) (o:=.cells #[.string a1_0,.slice (some ad431) l1_1.length c1_1] 47 (0,0)) (by (with_reducible repeat (first|apply bN|apply bD|apply bA));exact BK422.out) hb);have n2_:=am (below_step (by repeat (first|(with_reducible first|exact HB.out|apply lA|apply lN|apply lD|refine lS ?_ GE421.out|refine lS ?_ GE422.out)|exact HB.out)) hb);clear BK421;clear BK422;clear HB;have BK421:=n0_;have BK422:=n1_;have HB:=n2_;clear n0_ n1_ n2_;(try clear hb);(try clear hb2);(try clear hk);(try clear hi)
               refine hK.out _ _ ⟨(blk_cell BK421.out 0).trans rfl,(blk_cell BK421.out 1).trans rfl,(blk_cell BK421.out 2).trans rfl,(blk_cell BK421.out 3).trans rfl,(blk_cell BK421.out 4).trans rfl,(blk_cell BK421.out 5).trans rfl,(blk_cell BK421.out 6).trans rfl,(blk_cell BK421.out 7).trans rfl,(blk_cell BK422.out 0).trans rfl,(blk_cell BK422.out 1).trans rfl,((HB.out.cell (World.block_lt_of_cell? w _ hw431_0)).trans hw431_0),((HB.out.cell (World.block_lt_of_cell? w _ hw431_1)).trans hw431_1),((HB.out.cell (World.block_lt_of_cell? w _ hw431_2)).trans hw431_2),((HB.out.cell (World.block_lt_of_cell? w _ hw431_3)).trans hw431_3)⟩ (fun hHeld=>?_)
               clear hK K;refine norm_ (a':=?_) ?_ ?_;rotate_left
               ·show Act.put _ (some 84) _ = _
                simp only [Act.put,sA,s0,sS,i64_w,i32_w];rfl
               refine pure_ (i:=7) (N:=some 85) (v:=?_) (a':=?_) #[t_,t_,t_,t_,t_,t_,t_,t_] rfl rfl (any_of HT_.out (by kernel_rfl)) (fun _ _ _ h=>h) (Or.inl ⟨by rfl, ?_⟩) ?_ ?_;rotate_left;(intro w';go_simp;with_reducible rfl);rotate_left;(simp only [Act.put,sA,s0,sS,i64_w,i32_w];rfl)
               refine done_ (done_of HT_.out (by kernel_rfl)) ?_
               try go_wp2
               go_roundg k3
               case measure=>have:=HK1.out;have:=HK2.out;have:=HK3.out;omega
               case rel=>exact ⟨(wrap64 (x12_3 + 1)),(by first|rfl|(simp;done)|(simp [*];done)),H',⟨by have:=HK1.out;have:=HK2.out;have:=HK3.out;omega⟩,⟨by (with_reducible repeat (first|apply bN|apply bD|apply bA));exact BK421.out⟩,⟨by (with_reducible repeat (first|apply bN|apply bD|apply bA));exact BK422.out⟩,⟨by repeat (first|(with_reducible first|exact HB.out|apply lA|apply lN|apply lD|refine lS ?_ GE421.out|refine lS ?_ GE422.out)|exact HB.out)⟩⟩
              ·replace c47:=Bool.eq_false_iff.mpr c47;subst c47
               have H1 : (some (0,0,12)) = some (r1,r2,r3):=by rw [if_neg (show ¬ (false = true) by decide)] at H;exact H
               clear H;have H:=H1;clear H1;simp only [Option.some.injEq,Prod.mk.injEq] at H;obtain ⟨rfl,rfl,rfl⟩ := H;have hnb52:=NB422_421.out;have hnc52:=NB421_422.out;have hcz53_0 : wr.cell? ⟨gb422,0,none⟩ = some (.string a1_0):=(blk_cell BK422.out 0).trans rfl;have hcz53_1 : wr.cell? ⟨gb422,1,none⟩ = some (.slice A1_1 l1_1.length c1_1):=(blk_cell BK422.out 1).trans rfl;have hfz53_0:=blk_frozen BK422.out 0;have hfz53_1:=blk_frozen BK422.out 1
               try go_wp2
               have n0_:=am (blk_drew BK421.out);have n1_:=am (blk_drew BK422.out);have n2_:=am (below_drew1 HB.out);clear BK421;clear BK422;clear HB;have BK421:=n0_;have BK422:=n1_;have HB:=n2_;clear n0_ n1_ n2_;have p431 : 0 ≤ (x12_3 : Int):=of_decide_eq_true (by first|(with_reducible assumption)|assumption);have q431 : x12_3 < (l1_1.length : Int):=of_decide_eq_true (by first|(with_reducible assumption)|assumption);obtain ⟨ad431,e431,hx431_0,hx431_1,hx431_2,hx431_3⟩ := at_T61 HR1_1.out x12_3 p431 q431;have hw431_3:=hx431_3;have hw431_2:=hx431_2;have hw431_1:=hx431_1;have hw431_0:=hx431_0
               cases e431
               replace hx431_0:=(HB.out.cell (World.block_lt_of_cell? w _ hx431_0)).trans hx431_0;replace hx431_1:=(HB.out.cell (World.block_lt_of_cell? w _ hx431_1)).trans hx431_1;replace hx431_2:=(HB.out.cell (World.block_lt_of_cell? w _ hx431_2)).trans hx431_2;replace hx431_3:=(HB.out.cell (World.block_lt_of_cell? w _ hx431_3)).trans hx431_3;replace p431:=eq_true p431;replace q431:=eq_true q431
               refine start_ (n:=8) (S:=fun w'=>w'.cell? ⟨gb421,0,none⟩ = some (.string a0_0) ∧ w'.cell? ⟨gb421,1,none⟩ = some (.int .i64 a0_1) ∧ w'.cell? ⟨gb421,2,none⟩ = some (.int .i64 a0_2) ∧ w'.cell? ⟨gb421,3,none⟩ = some (.int .i64 a0_3) ∧ w'.cell? ⟨gb421,4,none⟩ = some (.int .i64 a0_4) ∧ w'.cell? ⟨gb421,5,none⟩ = some (.int .i64 a0_5) ∧ w'.cell? ⟨gb421,6,none⟩ = some (.int .i64 a0_6) ∧ w'.cell? ⟨gb421,7,none⟩ = some (.int .i64 a0_7) ∧ w'.cell? ⟨gb422,0,none⟩ = some (.string a1_0) ∧ w'.cell? ⟨gb422,1,none⟩ = some (.slice (some ad431) l1_1.length c1_1) ∧ w'.cell? (ad431.add ((x12_3).toNat * 4)) = some (.string ((rd_T61 l1_1 x12_3).f0)) ∧ w'.cell? ⟨(ad431.add ((x12_3).toNat * 4)).block,(ad431.add ((x12_3).toNat * 4)).off + 1,none⟩ = some (.int .i64 ((rd_T61 l1_1 x12_3).f1)) ∧ w'.cell? ⟨(ad431.add ((x12_3).toNat * 4)).block,(ad431.add ((x12_3).toNat * 4)).off + 2,none⟩ = some (.int .i64 ((rd_T61 l1_1 x12_3).f2)) ∧ w'.cell? ⟨(ad431.add ((x12_3).toNat * 4)).block,(ad431.add ((x12_3).toNat * 4)).off + 3,none⟩ = some (.int .i64 ((rd_T61 l1_1 x12_3).f3))) (ds:=[]) #[f_,f_,f_,f_,f_,f_,f_,f_] (by kernel_rfl) rfl rfl ⟨(blk_cell BK421.out 0).trans rfl,(blk_cell BK421.out 1).trans rfl,(blk_cell BK421.out 2).trans rfl,(blk_cell BK421.out 3).trans rfl,(blk_cell BK421.out 4).trans rfl,(blk_cell BK421.out 5).trans rfl,(blk_cell BK421.out 6).trans rfl,(blk_cell BK421.out 7).trans rfl,(blk_cell BK422.out 0).trans rfl,(blk_cell BK422.out 1).trans rfl,((HB.out.cell (World.block_lt_of_cell? w _ hw431_0)).trans hw431_0),((HB.out.cell (World.block_lt_of_cell? w _ hw431_1)).trans hw431_1),((HB.out.cell (World.block_lt_of_cell? w _ hw431_2)).trans hw431_2),((HB.out.cell (World.block_lt_of_cell? w _ hw431_3)).trans hw431_3)⟩ (fun hHeld=>?_);refine with_tabW gangsawref54_Moments.tab20 gangsawref54_Moments.bits20 (fun HT_ HW_=>?_)
               generalize wr.drew = w54 at BK421 BK422 HB hx431_0 hx431_1 hx431_2 hx431_3 hHeld ⊢;refine pure_ (i:=1) (N:=some 79) (v:=?_) (a':=?_) #[f_,t_,f_,f_,f_,f_,f_,f_] rfl rfl (any_of HT_.out (by kernel_rfl)) (fun _ _ _ h=>h) (Or.inl ⟨by rfl, ?_⟩) ?_ ?_;rotate_left;(intro w';go_simp;with_reducible rfl);rotate_left;(simp only [Act.put,sA,s0,sS,i64_w,i32_w];rfl);refine pure_ (i:=3) (N:=some 81) (v:=?_) (a':=?_) #[f_,t_,f_,t_,f_,f_,f_,f_] rfl rfl (any_of HT_.out (by kernel_rfl)) (fun _ _ _ h=>h) (Or.inl ⟨by rfl, ?_⟩) ?_ ?_;rotate_left;(intro w';go_simp;with_reducible rfl);rotate_left;(simp only [Act.put,sA,s0,sS,i64_w,i32_w];rfl);refine take_ (i:=0) (N:=some 78) (v:=?_) (a':=?_) #[t_,t_,f_,t_,f_,f_,f_,f_] rfl rfl (take_ofW HT_.out HW_.out (by kernel_rfl)) (fun _ _ _ h=>h) (Or.inl ⟨by rfl, ?_⟩) hHeld ?_ ?_;rotate_left;(rintro w' ⟨s0,s1,s2,s3,s4,s5,s6,s7,s8,s9,s10,s11,s12,s13⟩;go_simp;with_reducible rfl);rotate_left;(simp only [Act.put,sA,s0,sS,i64_w,i32_w];rfl);refine take_ (i:=2) (N:=some 80) (v:=?_) (a':=?_) #[t_,t_,t_,t_,f_,f_,f_,f_] rfl rfl (take_ofW HT_.out HW_.out (by kernel_rfl)) (fun _ _ _ h=>h) (Or.inl ⟨by rfl, ?_⟩) hHeld ?_ ?_;rotate_left;(rintro w' ⟨s0,s1,s2,s3,s4,s5,s6,s7,s8,s9,s10,s11,s12,s13⟩;go_simp;with_reducible rfl);rotate_left;(simp only [Act.put,sA,s0,sS,i64_w,i32_w];rfl);refine pure_ (i:=4) (N:=some 82) (v:=?_) (a':=?_) #[t_,t_,t_,t_,t_,f_,f_,f_] rfl rfl (any_of HT_.out (by kernel_rfl)) (fun _ _ _ h=>h) (Or.inl ⟨by rfl, ?_⟩) ?_ ?_;rotate_left;(intro w';go_simp;with_reducible rfl);rotate_left;(simp only [Act.put,sA,s0,sS,i64_w,i32_w];rfl);refine take_ (i:=5) (N:=some 83) (v:=?_) (a':=?_) #[t_,t_,t_,t_,t_,t_,f_,f_] rfl rfl (take_ofW HT_.out HW_.out (by kernel_rfl)) (fun _ _ _ h=>h) (Or.inl ⟨by rfl, ?_⟩) hHeld ?_ ?_;rotate_left;(rintro w' ⟨s0,s1,s2,s3,s4,s5,s6,s7,s8,s9,s10,s11,s12,s13⟩;go_simp;with_reducible rfl);rotate_left;(simp only [Act.put,sA,s0,sS,i64_w,i32_w];rfl);refine one_ (i:=6) (N:=some 84) #[t_,t_,t_,t_,t_,t_,t_,f_] rfl rfl (one_of HT_.out (by kernel_rfl)) (by decide) (fun K hK=>?_);refine goes_ Try.func54 (by kernel_rfl) rfl #[.agg #[.string a0_0,.int .i64 a0_1,.int .i64 a0_2,.int .i64 a0_3,.int .i64 a0_4,.int .i64 a0_5,.int .i64 a0_6,.int .i64 a0_7],.agg #[.string ((rd_T61 l1_1 x12_3).f0),.int .i64 ((rd_T61 l1_1 x12_3).f1),.int .i64 ((rd_T61 l1_1 x12_3).f2),.int .i64 ((rd_T61 l1_1 x12_3).f3)]] (by rfl) rfl rfl (by (try simp only [mT,mC,mN]);first|done|rfl|(simp only [lDr,lTk];rfl)) ?_
               with_reducible refine (gangsawref54_onBed.calls a0_0 a0_1 a0_2 a0_3 a0_4 a0_5 a0_6 a0_7 ((rd_T61 l1_1 x12_3).f0) ((rd_T61 l1_1 x12_3).f1) ((rd_T61 l1_1 x12_3).f2) ((rd_T61 l1_1 x12_3).f3) false _ A46.out).mono ?_
               rintro e w55 ⟨rfl,hb⟩;refine ⟨_,rfl, ?_⟩;have n0_:=am (blk_below (g:=gb421) (o:=.cells #[.string a0_0,.int .i64 a0_1,.int .i64 a0_2,.int .i64 a0_3,.int .i64 a0_4,.int .i64 a0_5,.int .i64 a0_6,.int .i64 a0_7] 24 (0,0)) (by (with_reducible repeat (first|apply bN|apply bD|apply bA));exact BK421.out) hb);have n1_:=am (blk_below (g:=gb422) (o:=.cells #[.string a1_0,.slice (some ad431) l1_1.length c1_1] 47 (0,0)) (by (with_reducible repeat (first|apply bN|apply bD|apply bA));exact BK422.out) hb);have n2_:=am (below_step (by repeat (first|(with_reducible first|exact HB.out|apply lA|apply lN|apply lD|refine lS ?_ GE421.out|refine lS ?_ GE422.out)|exact HB.out)) hb);clear BK421;clear BK422;clear HB;have BK421:=n0_;have BK422:=n1_;have HB:=n2_;clear n0_ n1_ n2_;(try clear hb);(try clear hb2);(try clear hk);(try clear hi)
               refine hK.out _ _ ⟨(blk_cell BK421.out 0).trans rfl,(blk_cell BK421.out 1).trans rfl,(blk_cell BK421.out 2).trans rfl,(blk_cell BK421.out 3).trans rfl,(blk_cell BK421.out 4).trans rfl,(blk_cell BK421.out 5).trans rfl,(blk_cell BK421.out 6).trans rfl,(blk_cell BK421.out 7).trans rfl,(blk_cell BK422.out 0).trans rfl,(blk_cell BK422.out 1).trans rfl,((HB.out.cell (World.block_lt_of_cell? w _ hw431_0)).trans hw431_0),((HB.out.cell (World.block_lt_of_cell? w _ hw431_1)).trans hw431_1),((HB.out.cell (World.block_lt_of_cell? w _ hw431_2)).trans hw431_2),((HB.out.cell (World.block_lt_of_cell? w _ hw431_3)).trans hw431_3)⟩ (fun hHeld=>?_)
               clear hK K;refine norm_ (a':=?_) ?_ ?_;rotate_left
               ·show Act.put _ (some 84) _ = _
                simp only [Act.put,sA,s0,sS,i64_w,i32_w];rfl
               refine pure_ (i:=7) (N:=some 85) (v:=?_) (a':=?_) #[t_,t_,t_,t_,t_,t_,t_,t_] rfl rfl (any_of HT_.out (by kernel_rfl)) (fun _ _ _ h=>h) (Or.inl ⟨by rfl, ?_⟩) ?_ ?_;rotate_left;(intro w';go_simp;with_reducible rfl);rotate_left;(simp only [Act.put,sA,s0,sS,i64_w,i32_w];rfl)
               refine done_ (done_of HT_.out (by kernel_rfl)) ?_
               try go_wp2
               go_ret3
               exact ⟨by first|rfl|(simp [errW_none,errW_some] <;> rfl)|(simp [*,errW_none,errW_some] <;> rfl),by repeat (first|(with_reducible first|exact HB.out|apply lA|apply lN|apply lD|refine lS ?_ GE421.out|refine lS ?_ GE422.out)|exact HB.out)⟩
             (rw [if_neg c45] at H;exact absurd H (by simp))
            ·rw [if_neg c44] at H;have c44b0 : decide (x12_3 < (l1_1.length : Int)) = false:=decide_eq_false c44;clear c44;by_cases c56 : a2 < 0
             ·rw [if_pos c56] at H;have c56b0 : decide (a2 < 0) = true:=decide_eq_true c56;clear c56;simp only [Option.some.injEq,Prod.mk.injEq] at H;obtain ⟨rfl,rfl,rfl⟩ := H;have hnb57:=NB422_421.out;have hnc57:=NB421_422.out;have hcz58_0 : wr.cell? ⟨gb422,0,none⟩ = some (.string a1_0):=(blk_cell BK422.out 0).trans rfl;have hcz58_1 : wr.cell? ⟨gb422,1,none⟩ = some (.slice A1_1 l1_1.length c1_1):=(blk_cell BK422.out 1).trans rfl;have hfz58_0:=blk_frozen BK422.out 0;have hfz58_1:=blk_frozen BK422.out 1
              go_wp2
              go_ret3
              exact ⟨by first|rfl|(simp [errW_none,errW_some] <;> rfl)|(simp [*,errW_none,errW_some] <;> rfl),by repeat (first|(with_reducible first|exact HB.out|apply lA|apply lN|apply lD|refine lS ?_ GE421.out|refine lS ?_ GE422.out)|exact HB.out)⟩
             ·rw [if_neg c56] at H;have c56b0 : decide (a2 < 0) = false:=decide_eq_false c56;clear c56;by_cases c59 : a2 > (l1_1.length : Int)
              ·rw [if_pos c59] at H;have c59b0 : decide ((l1_1.length : Int) < a2) = true:=decide_eq_true c59;clear c59;simp only [Option.some.injEq,Prod.mk.injEq] at H;obtain ⟨rfl,rfl,rfl⟩ := H;have hnb60:=NB422_421.out;have hnc60:=NB421_422.out;have hcz61_0 : wr.cell? ⟨gb422,0,none⟩ = some (.string a1_0):=(blk_cell BK422.out 0).trans rfl;have hcz61_1 : wr.cell? ⟨gb422,1,none⟩ = some (.slice A1_1 l1_1.length c1_1):=(blk_cell BK422.out 1).trans rfl;have hfz61_0:=blk_frozen BK422.out 0;have hfz61_1:=blk_frozen BK422.out 1
               go_wp2
               go_ret3
               exact ⟨by first|rfl|(simp [errW_none,errW_some] <;> rfl)|(simp [*,errW_none,errW_some] <;> rfl),by repeat (first|(with_reducible first|exact HB.out|apply lA|apply lN|apply lD|refine lS ?_ GE421.out|refine lS ?_ GE422.out)|exact HB.out)⟩
              ·rw [if_neg c59] at H;have c59b0 : decide ((l1_1.length : Int) < a2) = false:=decide_eq_false c59;clear c59;by_cases c62 : 0 ≤ a2
               ·rw [if_pos c62] at H;have c62b0:=eq_true c62;have c62b1 : decide (0 ≤ a2) = true:=decide_eq_true c62;clear c62;by_cases c63 : a2 ≤ (l1_1.length : Int)
                ·rw [if_pos c63] at H;have c63b0:=eq_true c63;have c63b1 : decide (a2 ≤ (l1_1.length : Int)) = true:=decide_eq_true c63;clear c63
                 obtain ⟨y433,hy433⟩ : ∃ y_ : List (S61),y_ = (l1_1.drop (a2 : Int).toNat):=⟨_,rfl⟩
                 replace H : ((gangsawref54_moments.f k3 a0_0 a0_1 a0_2 a0_3 a0_4 a0_5 a0_6 a0_7 y433).bind fun bt437=>(some (bt437.1,bt437.2,0))) = some (r1,r2,r3):=by first|(rw [hy433];with_reducible exact H)|(have H2_:=(Option.bind_some _ _).symm.trans H;rw [hy433];with_reducible exact H2_)|(have H2_:=(Option.bind_some _ _).symm.trans H;with_reducible exact H2_)|with_reducible exact H|(rw [hy433];exact H)|exact H
                 have Ny433:=am hy433;clear hy433;replace H:=Option.bind_eq_some_iff.mp H;obtain ⟨⟨t437,t438⟩,A640,H⟩ := H;replace H : (some (t437,t438,0)) = some (r1,r2,r3):=H;have A64:=am A640;clear A640;simp only [Option.some.injEq,Prod.mk.injEq] at H;obtain ⟨rfl,rfl,rfl⟩ := H;have hnb65:=NB422_421.out;have hnc65:=NB421_422.out;have hcz66_0 : wr.cell? ⟨gb422,0,none⟩ = some (.string a1_0):=(blk_cell BK422.out 0).trans rfl;have hcz66_1 : wr.cell? ⟨gb422,1,none⟩ = some (.slice A1_1 l1_1.length c1_1):=(blk_cell BK422.out 1).trans rfl;have hfz66_0:=blk_frozen BK422.out 0;have hfz66_1:=blk_frozen BK422.out 1
                 try go_wp2
                 have n0_:=am (blk_drew BK421.out);have n1_:=am (blk_drew BK422.out);have n2_:=am (below_drew1 HB.out);clear BK421;clear BK422;clear HB;have BK421:=n0_;have BK422:=n1_;have HB:=n2_;clear n0_ n1_ n2_;have q68 : (a2 : Int) ≤ ((l1_1.length : Int) : Int):=of_decide_eq_true (by first|(with_reducible assumption)|assumption);obtain ⟨i068,hi068,_,hsz68,_⟩ := info_parts info61;have hroom68 : l1_1.length ≤ c1_1:=HC1_1.out;have hC68 : Kd.C k61 _ A1_1 l1_1.length l1_1:=HR1_1.out;have q068 : (0 : Int) ≤ (a2 : Int):=of_decide_eq_true (by first|(with_reducible assumption)|assumption);have hcut68:=cut_from (P:=Try.prog) 45 61 .i64 Try.underlying45 hi068 4 hsz68 A1_1 l1_1.length c1_1 a2 q068 q68;have hr68:=Kd.C_drop (m:=(a2 : Int).toNat) (c:=c1_1) hC68 (by omega) hroom68
                 obtain ⟨A68,hA68⟩ : ∃ A_,A_ = (if c1_1 = (a2 : Int).toNat then A1_1 else (A1_1 : Option Addr).map (·.add ((a2 : Int).toNat * 4))):=⟨_,rfl⟩
                 obtain ⟨c68,hc68⟩ : ∃ c1,c1 = c1_1 - (a2 : Int).toNat:=⟨_,rfl⟩
                 have hy68 : y433.length = l1_1.length - (a2 : Int).toNat:=(by rw [Ny433.out,lDr] <;> omega)
                 rw [show (l1_1).drop (a2 : Int).toNat = y433 from Ny433.out.symm] at hr68
                 replace hr68 : Kd.C k61 _ A68 y433.length y433:=(by rw [hA68];exact hr68)
                 rw [← hy68,← hA68,← hc68] at hcut68;have HR436:=am hr68;have HC436:=am (show y433.length ≤ c68 from by rw [hy68,hc68];exact Nat.sub_le_sub_right hroom68 _);clear hr68 hC68 hroom68 hi068 hsz68 hc68;have KY68:=am hy68;have KA68:=am hA68;clear hy68 hA68;replace q68:=eq_true q68
                 refine start_ (n:=11) (S:=fun w'=>w'.cell? ⟨gb421,0,none⟩ = some (.string a0_0) ∧ w'.cell? ⟨gb421,1,none⟩ = some (.int .i64 a0_1) ∧ w'.cell? ⟨gb421,2,none⟩ = some (.int .i64 a0_2) ∧ w'.cell? ⟨gb421,3,none⟩ = some (.int .i64 a0_3) ∧ w'.cell? ⟨gb421,4,none⟩ = some (.int .i64 a0_4) ∧ w'.cell? ⟨gb421,5,none⟩ = some (.int .i64 a0_5) ∧ w'.cell? ⟨gb421,6,none⟩ = some (.int .i64 a0_6) ∧ w'.cell? ⟨gb421,7,none⟩ = some (.int .i64 a0_7) ∧ w'.cell? ⟨gb422,0,none⟩ = some (.string a1_0) ∧ w'.cell? ⟨gb422,1,none⟩ = some (.slice A1_1 l1_1.length c1_1)) (ds:=[]) #[f_,f_,f_,f_,f_,f_,f_,f_,f_,f_,f_] (by kernel_rfl) rfl rfl ⟨(blk_cell BK421.out 0).trans rfl,(blk_cell BK421.out 1).trans rfl,(blk_cell BK421.out 2).trans rfl,(blk_cell BK421.out 3).trans rfl,(blk_cell BK421.out 4).trans rfl,(blk_cell BK421.out 5).trans rfl,(blk_cell BK421.out 6).trans rfl,(blk_cell BK421.out 7).trans rfl,(blk_cell BK422.out 0).trans rfl,(blk_cell BK422.out 1).trans rfl⟩ (fun hHeld=>?_);refine with_tabW gangsawref54_Moments.tab24 gangsawref54_Moments.bits24 (fun HT_ HW_=>?_)
                 generalize wr.drew = w67 at BK421 BK422 HB HR436 hHeld ⊢;refine pure_ (i:=1) (N:=some 97) (v:=?_) (a':=?_) #[f_,t_,f_,f_,f_,f_,f_,f_,f_,f_,f_] rfl rfl (any_of HT_.out (by kernel_rfl)) (fun _ _ _ h=>h) (Or.inl ⟨by rfl, ?_⟩) ?_ ?_;rotate_left;(intro w';go_simp;with_reducible rfl);rotate_left;(simp only [Act.put,sA,s0,sS,i64_w,i32_w];rfl);refine pure_ (i:=3) (N:=some 99) (v:=?_) (a':=?_) #[f_,t_,f_,t_,f_,f_,f_,f_,f_,f_,f_] rfl rfl (any_of HT_.out (by kernel_rfl)) (fun _ _ _ h=>h) (Or.inl ⟨by rfl, ?_⟩) ?_ ?_;rotate_left;(intro w';go_simp;with_reducible rfl);rotate_left;(simp only [Act.put,sA,s0,sS,i64_w,i32_w];rfl);refine take_ (i:=0) (N:=some 96) (v:=?_) (a':=?_) #[t_,t_,f_,t_,f_,f_,f_,f_,f_,f_,f_] rfl rfl (take_ofW HT_.out HW_.out (by kernel_rfl)) (fun _ _ _ h=>h) (Or.inl ⟨by rfl, ?_⟩) hHeld ?_ ?_;rotate_left;(rintro w' ⟨s0,s1,s2,s3,s4,s5,s6,s7,s8,s9⟩;go_simp;with_reducible rfl);rotate_left;(simp only [Act.put,sA,s0,sS,i64_w,i32_w];rfl);refine take_ (i:=2) (N:=some 98) (v:=?_) (a':=?_) #[t_,t_,t_,t_,f_,f_,f_,f_,f_,f_,f_] rfl rfl (take_ofW HT_.out HW_.out (by kernel_rfl)) (fun _ _ _ h=>h) (Or.inl ⟨by rfl, ?_⟩) hHeld ?_ ?_;rotate_left;(rintro w' ⟨s0,s1,s2,s3,s4,s5,s6,s7,s8,s9⟩;go_simp;with_reducible rfl);rotate_left;(simp only [Act.put,sA,s0,sS,i64_w,i32_w];rfl);refine pure_ (i:=4) (N:=some 100) (v:=?_) (a':=?_) #[t_,t_,t_,t_,t_,f_,f_,f_,f_,f_,f_] rfl rfl (any_of HT_.out (by kernel_rfl)) (fun _ _ _ h=>h) (Or.inl ⟨by rfl, ?_⟩) ?_ ?_;rotate_left;(intro w';go_simp;with_reducible rfl);rotate_left;(simp only [Act.put,sA,s0,sS,i64_w,i32_w];rfl);refine one_ (i:=5) (N:=some 101) #[t_,t_,t_,t_,t_,t_,f_,f_,f_,f_,f_] rfl rfl (one_of HT_.out (by kernel_rfl)) (by decide) (fun K hK=>?_);refine goes_ Try.func57 (by kernel_rfl) rfl #[.agg #[.string a0_0,.int .i64 a0_1,.int .i64 a0_2,.int .i64 a0_3,.int .i64 a0_4,.int .i64 a0_5,.int .i64 a0_6,.int .i64 a0_7],.slice A68 y433.length c68] (by rfl) rfl rfl (by (try simp only [mT,mC,mN]);first|done|rfl|(simp only [lDr,lTk];rfl)) ?_
                 with_reducible refine (gangsawref54_moments.calls k3 a0_0 a0_1 a0_2 a0_3 a0_4 a0_5 a0_6 a0_7 _ _ y433 t437 t438 _ ?side1 ?side2 A64.out).mono ?_
                 (case side1=>repeat (first|exact (kB HR436.out HB.out)|(with_reducible first|apply kA|apply kN|apply kD)));(case side2=>exact HC436.out);rintro e w69 ⟨rfl,hb⟩;refine ⟨_,rfl, ?_⟩;have n0_:=am (blk_below (g:=gb421) (o:=.cells #[.string a0_0,.int .i64 a0_1,.int .i64 a0_2,.int .i64 a0_3,.int .i64 a0_4,.int .i64 a0_5,.int .i64 a0_6,.int .i64 a0_7] 24 (0,0)) (by (with_reducible repeat (first|apply bN|apply bD|apply bA));exact BK421.out) hb);have n1_:=am (blk_below (g:=gb422) (o:=.cells #[.string a1_0,.slice A1_1 l1_1.length c1_1] 47 (0,0)) (by (with_reducible repeat (first|apply bN|apply bD|apply bA));exact BK422.out) hb);have n2_:=am (below_step (by repeat (first|(with_reducible first|exact HB.out|apply lA|apply lN|apply lD|refine lS ?_ GE421.out|refine lS ?_ GE422.out)|exact HB.out)) hb);clear BK421;clear BK422;clear HB;have BK421:=n0_;have BK422:=n1_;have HB:=n2_;clear n0_ n1_ n2_;(try clear hb);(try clear hb2);(try clear hk);(try clear hi)
                 refine hK.out _ _ ⟨(blk_cell BK421.out 0).trans rfl,(blk_cell BK421.out 1).trans rfl,(blk_cell BK421.out 2).trans rfl,(blk_cell BK421.out 3).trans rfl,(blk_cell BK421.out 4).trans rfl,(blk_cell BK421.out 5).trans rfl,(blk_cell BK421.out 6).trans rfl,(blk_cell BK421.out 7).trans rfl,(blk_cell BK422.out 0).trans rfl,(blk_cell BK422.out 1).trans rfl⟩ (fun hHeld=>?_)
                 clear hK K;refine norm_ (a':=?_) ?_ ?_;rotate_left
                 ·show Act.put _ (some 101) _ = _
                  simp only [Act.put,sA,s0,sS,i64_w,i32_w];rfl
                 refine pure_ (i:=6) (N:=some 95) (v:=?_) (a':=?_) #[t_,t_,t_,t_,t_,t_,t_,f_,f_,f_,f_] rfl rfl (any_of HT_.out (by kernel_rfl)) (fun _ _ _ h=>h) (Or.inl ⟨by rfl, ?_⟩) ?_ ?_;rotate_left;(intro w';go_simp;with_reducible rfl);rotate_left;(simp only [Act.put,sA,s0,sS,i64_w,i32_w];rfl);refine pure_ (i:=7) (N:=some 102) (v:=?_) (a':=?_) #[t_,t_,t_,t_,t_,t_,t_,t_,f_,f_,f_] rfl rfl (any_of HT_.out (by kernel_rfl)) (fun _ _ _ h=>h) (Or.inl ⟨by rfl, ?_⟩) ?_ ?_;rotate_left;(intro w';go_simp;with_reducible rfl);rotate_left;(simp only [Act.put,sA,s0,sS,i64_w,i32_w];rfl);refine pure_ (i:=8) (N:=some 103) (v:=?_) (a':=?_) #[t_,t_,t_,t_,t_,t_,t_,t_,t_,f_,f_] rfl rfl (any_of HT_.out (by kernel_rfl)) (fun _ _ _ h=>h) (Or.inl ⟨by rfl, ?_⟩) ?_ ?_;rotate_left;(intro w';go_simp;with_reducible rfl);rotate_left;(simp only [Act.put,sA,s0,sS,i64_w,i32_w];rfl);refine pure_ (i:=9) (N:=some 13) (v:=?_) (a':=?_) #[t_,t_,t_,t_,t_,t_,t_,t_,t_,t_,f_] rfl rfl (any_of HT_.out (by kernel_rfl)) (fun _ _ _ h=>h) (Or.inl ⟨by rfl, ?_⟩) ?_ ?_;rotate_left;(intro w';go_simp;with_reducible rfl);rotate_left;(simp only [Act.put,sA,s0,sS,i64_w,i32_w];rfl);refine pure_ (i:=10) (N:=some 14) (v:=?_) (a':=?_) #[t_,t_,t_,t_,t_,t_,t_,t_,t_,t_,t_] rfl rfl (any_of HT_.out (by kernel_rfl)) (fun _ _ _ h=>h) (Or.inl ⟨by rfl, ?_⟩) ?_ ?_;rotate_left;(intro w';go_simp;with_reducible rfl);rotate_left;(simp only [Act.put,sA,s0,sS,i64_w,i32_w];rfl)
                 refine done_ (done_of HT_.out (by kernel_rfl)) ?_
                 try go_wp2
                 go_ret3
                 exact ⟨by first|rfl|(simp [errW_none,errW_some] <;> rfl)|(simp [*,errW_none,errW_some] <;> rfl),by repeat (first|(with_reducible first|exact HB.out|apply lA|apply lN|apply lD|refine lS ?_ GE421.out|refine lS ?_ GE422.out)|exact HB.out)⟩
                (rw [if_neg c63] at H;exact absurd H (by simp))
               (rw [if_neg c62] at H;exact absurd H (by simp))
         ·replace c41:=Bool.eq_false_iff.mpr c41;subst c41
          have H1 : (some (0,0,6)) = some (r1,r2,r3):=by rw [if_neg (show ¬ (false = true) by decide)] at H;exact H
          clear H;have H:=H1;clear H1;simp only [Option.some.injEq,Prod.mk.injEq] at H;obtain ⟨rfl,rfl,rfl⟩ := H;have hnb70:=NB422_421.out;have hnc70:=NB421_422.out;have hcz71_0 : wr.cell? ⟨gb422,0,none⟩ = some (.string a1_0):=(blk_cell BK422.out 0).trans rfl;have hcz71_1 : wr.cell? ⟨gb422,1,none⟩ = some (.slice A1_1 l1_1.length c1_1):=(blk_cell BK422.out 1).trans rfl;have hfz71_0:=blk_frozen BK422.out 0;have hfz71_1:=blk_frozen BK422.out 1
          go_wp2
          go_ret3
          exact ⟨by first|rfl|(simp [errW_none,errW_some] <;> rfl)|(simp [*,errW_none,errW_some] <;> rfl),by repeat (first|(with_reducible first|exact HB.out|apply lA|apply lN|apply lD|refine lS ?_ GE421.out|refine lS ?_ GE422.out)|exact HB.out)⟩
     ·replace c23:=Bool.eq_false_iff.mpr c23;subst c23
      have H1 : (some (0,0,4)) = some (r1,r2,r3):=by rw [if_neg (show ¬ (false = true) by decide)] at H;exact H
      clear H;have H:=H1;clear H1;simp only [Option.some.injEq,Prod.mk.injEq] at H;obtain ⟨rfl,rfl,rfl⟩ := H;have hnb72:=NB422_421.out;have hnc72:=NB421_422.out;have hcz73_0 : wr.cell? ⟨gb422,0,none⟩ = some (.string a1_0):=(blk_cell BK422.out 0).trans rfl;have hcz73_1 : wr.cell? ⟨gb422,1,none⟩ = some (.slice A1_1 l1_1.length c1_1):=(blk_cell BK422.out 1).trans rfl;have hfz73_0:=blk_frozen BK422.out 0;have hfz73_1:=blk_frozen BK422.out 1
      go_wp2
      go_ret3
      exact ⟨by first|rfl|(simp [errW_none,errW_some] <;> rfl)|(simp [*,errW_none,errW_some] <;> rfl),by repeat (first|(with_reducible first|exact HB.out|apply lA|apply lN|apply lD|refine lS ?_ GE421.out|refine lS ?_ GE422.out)|exact HB.out)⟩

end Go.Proofs.Ytohcgenhhgipcaa.PA
