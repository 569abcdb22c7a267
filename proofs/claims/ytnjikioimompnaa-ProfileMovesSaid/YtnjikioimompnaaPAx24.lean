-- Written by a program of this session out of the translation,over functions proved by hand.
import Derived.Test.YtnjikioimompnaaPAx0
import Derived.Test.YtnjikioimompnaaPAx6
import Derived.Test.YtnjikioimompnaaPAx7
import Derived.Test.YtnjikioimompnaaPAx8
import Derived.Test.YtnjikioimompnaaPAx9
import Derived.Test.YtnjikioimompnaaGiven
namespace Go.Proofs.Ytnjikioimompnaa.PA
open Go.RowKit Go.Proofs.YtnjikioimompnaaW.PrintWords Go.Proofs.YtnjikioimompnaaW.PrintLast Go.Proofs.YtnjikioimompnaaW.PrintMore
attribute [local go_sem] max2_int min2_int max_two min_two max_three min_three max_four min_four   -- for this text's walks alone
set_option linter.unusedVariables false
set_option linter.unusedSimpArgs false
noncomputable section

mutual
def gangsawlaw39_ProfileMoves.j0 : Nat → Int → Bool → ByteArray → List (S31) → Int → Int → Option (Bool)
 | 0,_,_,_,_,_,_=>none
 | k + 1,x2,x56,x608000,x608001,x609000,x609001=>if x56 = true then (some true) else (gangsawlaw39_ProfileMoves.l0 k x2 0 x608000 x608001 x609000 x609001 x608000 ([] : List (S31)))
def gangsawlaw39_ProfileMoves.l0 : Nat → Int → Int → ByteArray → List (S31) → Int → Int → ByteArray → List (S31) → Option (Bool)
 | 0,_,_,_,_,_,_,_,_=>none
 | k + 1,x2,x8,x608000,x608001,x609000,x609001,x612000,x612001=>if x8 < (x608001.length : Int) then (if (x608001.length : Int) = 0 then (none) else (if 0 ≤ (Int.tmod (wrap64 (x8 + x2)) (x608001.length : Int)) then (if (Int.tmod (wrap64 (x8 + x2)) (x608001.length : Int)) < (x608001.length : Int) then (if ((rd_T31 x608001 (Int.tmod (wrap64 (x8 + x2)) (x608001.length : Int))).f0) < (-1000000) then (some true) else (if ((rd_T31 x608001 (Int.tmod (wrap64 (x8 + x2)) (x608001.length : Int))).f0) > 1000000 then (some true) else (if ((rd_T31 x608001 (Int.tmod (wrap64 (x8 + x2)) (x608001.length : Int))).f1) < (-1000000) then (some true) else (if ((rd_T31 x608001 (Int.tmod (wrap64 (x8 + x2)) (x608001.length : Int))).f1) > 1000000 then (some true) else (if x612001.length < 8796093022208 then (gangsawlaw39_ProfileMoves.l0 k x2 (wrap64 (x8 + 1)) x608000 x608001 x609000 x609001 x612000 (x612001 ++ [(⟨wrap64 (((rd_T31 x608001 (Int.tmod (wrap64 (x8 + x2)) (x608001.length : Int))).f0) + x609000),wrap64 (((rd_T31 x608001 (Int.tmod (wrap64 (x8 + x2)) (x608001.length : Int))).f1) + x609001)⟩ : S31)])) else (none)))))) else (none)) else (none))) else ((profile_Check.f k x612000 x612001).bind fun t617=>(if t617 = 0 then ((profile_Equal.f k x608000 x608001 x612000 x612001).bind fun bt618=>((profile_Area.f k x608000 x608001).bind fun bt620=>((profile_Area.f k x612000 x612001).bind fun bt622=>((profile_Directions.f k x608000 x608001).bind fun bt624=>((profile_Directions.f k x612000 x612001).bind fun bt628=>(if bt618.2 = 0 then (if bt618.1 = true then (if bt620.2 = 0 then (if bt622.2 = 0 then (if bt620.1 = bt622.1 then (if bt624.2 = 0 then (if bt628.2 = 0 then (gangsawlaw39_ProfileMoves.j2 k bt624.1 bt628.1 ((bt624.1.length : Int) != (bt628.1.length : Int))) else (gangsawlaw39_ProfileMoves.j2 k bt624.1 bt628.1 true)) else (gangsawlaw39_ProfileMoves.j2 k bt624.1 bt628.1 true)) else (gangsawlaw39_ProfileMoves.j2 k bt624.1 bt628.1 true)) else (gangsawlaw39_ProfileMoves.j2 k bt624.1 bt628.1 true)) else (gangsawlaw39_ProfileMoves.j2 k bt624.1 bt628.1 true)) else (gangsawlaw39_ProfileMoves.j2 k bt624.1 bt628.1 true)) else (gangsawlaw39_ProfileMoves.j2 k bt624.1 bt628.1 true))))))) else (some true)))
def gangsawlaw39_ProfileMoves.j2 : Nat → List Int → List Int → Bool → Option (Bool)
 | 0,_,_,_=>none
 | k + 1,x16,x18,x174=>if x174 = true then (none) else (gangsawlaw39_ProfileMoves.l1 k x16 x18 0)
def gangsawlaw39_ProfileMoves.l1 : Nat → List Int → List Int → Int → Option (Bool)
 | 0,_,_,_=>none
 | k + 1,x16,x18,x20=>if x20 < (x16.length : Int) then (if 0 ≤ x20 then (if x20 < (x18.length : Int) then (if (rd x16 x20) = (rd x18 x20) then (gangsawlaw39_ProfileMoves.l1 k x16 x18 (wrap64 (x20 + 1))) else (none)) else (none)) else (none)) else (some true)
end
def gangsawlaw39_ProfileMoves.f (k : Nat) (a0_0 : ByteArray) (l0_1 : List (S31)) (a1_0 : Int) (a1_1 : Int) (a2 : Int) : Option (Bool):=(gangsawlaw39_awake.f k).bind fun t609=>(if t609 = true then ((gangsawref39_Short.f a0_0 l0_1).bind fun t610=>(if t610 = true then (if a1_0 < (-1000000) then (gangsawlaw39_ProfileMoves.j0 k a2 true a0_0 l0_1 a1_0 a1_1) else (if a1_0 > 1000000 then (gangsawlaw39_ProfileMoves.j0 k a2 true a0_0 l0_1 a1_0 a1_1) else (if a1_1 < (-1000000) then (gangsawlaw39_ProfileMoves.j0 k a2 true a0_0 l0_1 a1_0 a1_1) else (if a1_1 > 1000000 then (gangsawlaw39_ProfileMoves.j0 k a2 true a0_0 l0_1 a1_0 a1_1) else (if a2 < 0 then (gangsawlaw39_ProfileMoves.j0 k a2 true a0_0 l0_1 a1_0 a1_1) else (gangsawlaw39_ProfileMoves.j0 k a2 (decide (a2 ≥ (l0_1.length : Int))) a0_0 l0_1 a1_0 a1_1)))))) else (gangsawlaw39_ProfileMoves.j0 k a2 true a0_0 l0_1 a1_0 a1_1))) else (none))
def gangsawlaw39_ProfileMoves.T9 : Bool × List (List Nat × List Nat):=(true,[([],[]),([0],[0]),([],[]),([],[]),([2,3],[2,3]),([],[]),([5],[5]),([6],[6]),([4,7],[4,7]),([1,8],[1,8]),([9],[9]),([],[]),([11,10,0,1,2,3,4,5,6,7,8,9,10,11],[10,11])])
def gangsawlaw39_ProfileMoves.B9 : List Nat:=[0,1,0,0,12,0,32,96,252,511,1023,0,4095]
theorem gangsawlaw39_ProfileMoves.tab9 : rtab .any (opsOf Try.f10 9) = gangsawlaw39_ProfileMoves.T9:=by kernel_rfl
theorem gangsawlaw39_ProfileMoves.bits9 : waitsOk gangsawlaw39_ProfileMoves.T9.2 gangsawlaw39_ProfileMoves.B9 = true:=by kernel_rfl
def gangsawlaw39_ProfileMoves.T25 : Bool × List (List Nat × List Nat):=(true,[([],[]),([],[]),([0,1],[0,1]),([2],[2]),([],[]),([],[]),([4,5],[4,5]),([6],[6]),([3,7],[3,7])])
def gangsawlaw39_ProfileMoves.B25 : List Nat:=[0,0,3,7,0,0,48,112,255]
theorem gangsawlaw39_ProfileMoves.tab25 : rtab .any (opsOf Try.f10 25) = gangsawlaw39_ProfileMoves.T25:=by kernel_rfl
theorem gangsawlaw39_ProfileMoves.bits25 : waitsOk gangsawlaw39_ProfileMoves.T25.2 gangsawlaw39_ProfileMoves.B25 = true:=by kernel_rfl
set_option maxHeartbeats 8000000 in
set_option maxRecDepth 100000 in
theorem gangsawlaw39_ProfileMoves.calls (k : Nat) (a0_0 : ByteArray) (A0_1 : Option Addr) (c0_1 : Nat) (l0_1 : List (S31)) (a1_0 : Int) (a1_1 : Int) (a2 : Int) (r : Bool) (w : World) (hr0_1 : Kd.C k31 w A0_1 l0_1.length l0_1) (hc0_1 : l0_1.length ≤ c0_1) (h : gangsawlaw39_ProfileMoves.f k a0_0 l0_1 a1_0 a1_1 a2 = some r) :
  Calls Try.prog 10 #[.agg #[.string a0_0,.slice A0_1 l0_1.length c0_1],.agg #[.int .i64 a1_0,.int .i64 a1_1],.int .i64 a2] w fun e w'=>e = .returned (.bool r) ∧ Below w.heap.size w w':=by
 have hu25:=Try.underlying25
 have hu31:=Try.underlying31
 have HR0_1:=am hr0_1
 have HC0_1:=am hc0_1
 clear hr0_1 hc0_1
 have HB:=am (Below.refl w.heap.size w)
 have H : ((gangsawlaw39_awake.f k).bind fun t609=>(if t609 = true then ((gangsawref39_Short.f a0_0 l0_1).bind fun t610=>(if t610 = true then (if a1_0 < (-1000000) then (gangsawlaw39_ProfileMoves.j0 k a2 true a0_0 l0_1 a1_0 a1_1) else (if a1_0 > 1000000 then (gangsawlaw39_ProfileMoves.j0 k a2 true a0_0 l0_1 a1_0 a1_1) else (if a1_1 < (-1000000) then (gangsawlaw39_ProfileMoves.j0 k a2 true a0_0 l0_1 a1_0 a1_1) else (if a1_1 > 1000000 then (gangsawlaw39_ProfileMoves.j0 k a2 true a0_0 l0_1 a1_0 a1_1) else (if a2 < 0 then (gangsawlaw39_ProfileMoves.j0 k a2 true a0_0 l0_1 a1_0 a1_1) else (gangsawlaw39_ProfileMoves.j0 k a2 (decide (a2 ≥ (l0_1.length : Int))) a0_0 l0_1 a1_0 a1_1)))))) else (gangsawlaw39_ProfileMoves.j0 k a2 true a0_0 l0_1 a1_0 a1_1))) else (none))) = some r:=h
 clear h
 replace H:=Option.bind_eq_some_iff.mp H
 obtain ⟨t609,A40,H⟩ := H
 replace H : (if t609 = true then ((gangsawref39_Short.f a0_0 l0_1).bind fun t610=>(if t610 = true then (if a1_0 < (-1000000) then (gangsawlaw39_ProfileMoves.j0 k a2 true a0_0 l0_1 a1_0 a1_1) else (if a1_0 > 1000000 then (gangsawlaw39_ProfileMoves.j0 k a2 true a0_0 l0_1 a1_0 a1_1) else (if a1_1 < (-1000000) then (gangsawlaw39_ProfileMoves.j0 k a2 true a0_0 l0_1 a1_0 a1_1) else (if a1_1 > 1000000 then (gangsawlaw39_ProfileMoves.j0 k a2 true a0_0 l0_1 a1_0 a1_1) else (if a2 < 0 then (gangsawlaw39_ProfileMoves.j0 k a2 true a0_0 l0_1 a1_0 a1_1) else (gangsawlaw39_ProfileMoves.j0 k a2 (decide (a2 ≥ (l0_1.length : Int))) a0_0 l0_1 a1_0 a1_1)))))) else (gangsawlaw39_ProfileMoves.j0 k a2 true a0_0 l0_1 a1_0 a1_1))) else (none)) = some r:=H
 have A4:=am A40
 clear A40
 by_cases c5 : t609 = true
 ·subst c5
  have H1 : ((gangsawref39_Short.f a0_0 l0_1).bind fun t610=>(if t610 = true then (if a1_0 < (-1000000) then (gangsawlaw39_ProfileMoves.j0 k a2 true a0_0 l0_1 a1_0 a1_1) else (if a1_0 > 1000000 then (gangsawlaw39_ProfileMoves.j0 k a2 true a0_0 l0_1 a1_0 a1_1) else (if a1_1 < (-1000000) then (gangsawlaw39_ProfileMoves.j0 k a2 true a0_0 l0_1 a1_0 a1_1) else (if a1_1 > 1000000 then (gangsawlaw39_ProfileMoves.j0 k a2 true a0_0 l0_1 a1_0 a1_1) else (if a2 < 0 then (gangsawlaw39_ProfileMoves.j0 k a2 true a0_0 l0_1 a1_0 a1_1) else (gangsawlaw39_ProfileMoves.j0 k a2 (decide (a2 ≥ (l0_1.length : Int))) a0_0 l0_1 a1_0 a1_1)))))) else (gangsawlaw39_ProfileMoves.j0 k a2 true a0_0 l0_1 a1_0 a1_1))) = some r:=by rw [if_pos rfl] at H;exact H
  clear H
  have H:=H1
  clear H1
  have HC6:=am H
  clear H
  go_enter Try.func10,Try.ntmps10
  go_upto_region 3 with (first|((with_reducible refine gate_dst (N:=3) rfl ?_);(try (refine gate_guard (by rfl) ?_;dsimp only));refine box_event ?hg (N:=3) ?hd (cs:=#[.string a0_0,.slice A0_1 l0_1.length c0_1]) (t:=25) ?hr ?_;(case hd=>rfl);(case hg=>rfl);(case hr=>first|(go_simp;done)|(go_simp;rfl));intro gb607 hg w7 hbox hb;have n0_:=am (below_step (by repeat (first|(with_reducible first|exact HB.out|apply lA|apply lN|apply lD)|exact HB.out)) hb);have n1_:=am (hbox);have n2_:=am ((by rw [hg];exact (below_size (by repeat (first|(with_reducible first|exact HB.out|apply lA|apply lN|apply lD)|exact HB.out))) : w.heap.size ≤ gb607));have n3_:=am ((by rw [hg];exact (below_size (by repeat (first|(with_reducible first|exact HB.out|apply lA|apply lN|apply lD)|exact HB.out))) : w.heap.size ≤ gb607));clear HB;have HB:=n0_;have BK607:=n1_;have GW607:=n2_;have GE607:=n3_;clear n0_ n1_ n2_ n3_;clear hb hbox hg)|((with_reducible refine gate_dst (N:=4) rfl ?_);(try (refine gate_guard (by rfl) ?_;dsimp only));refine box_event ?hg (N:=4) ?hd (cs:=#[.int .i64 a1_0,.int .i64 a1_1]) (t:=31) ?hr ?_;(case hd=>rfl);(case hg=>rfl);(case hr=>first|(go_simp;done)|(go_simp;rfl));intro gb608 hg w8 hbox hb;have n0_:=am (blk_below (g:=gb607) (o:=.cells #[.string a0_0,.slice A0_1 l0_1.length c0_1] 25 (0,0)) (by (with_reducible repeat (first|apply bN|apply bD|apply bA));exact BK607.out) hb);have n1_:=am (below_step (by repeat (first|(with_reducible first|exact HB.out|apply lA|apply lN|apply lD|refine lS ?_ GE607.out)|exact HB.out)) hb);have n2_:=am (hbox);have n3_:=am ((by rw [hg];exact (below_size (by repeat (first|(with_reducible first|exact HB.out|apply lA|apply lN|apply lD|refine lS ?_ GE607.out)|exact HB.out))) : w.heap.size ≤ gb608));have n4_:=am ((by rw [hg];exact (below_size (by repeat (first|(with_reducible first|exact HB.out|apply lA|apply lN|apply lD|refine lS ?_ GE607.out)|exact HB.out))) : w.heap.size ≤ gb608));have n5_:=am ((by rw [hg];exact Nat.ne_of_lt (blk_lt (g:=gb607) (o:=.cells #[.string a0_0,.slice A0_1 l0_1.length c0_1] 25 (0,0)) (by (with_reducible repeat (first|apply bN|apply bD|apply bA));exact BK607.out)) : gb607 ≠ gb608));have n6_:=am ((by rw [hg];exact Nat.ne_of_gt (blk_lt (g:=gb607) (o:=.cells #[.string a0_0,.slice A0_1 l0_1.length c0_1] 25 (0,0)) (by (with_reducible repeat (first|apply bN|apply bD|apply bA));exact BK607.out)) : gb608 ≠ gb607));clear BK607;clear HB;have BK607:=n0_;have HB:=n1_;have BK608:=n2_;have GW608:=n3_;have GE608:=n4_;have NB607_608:=n5_;have NB608_607:=n6_;clear n0_ n1_ n2_ n3_ n4_ n5_ n6_;clear hb hbox hg)|((with_reducible refine gate_callee (f:=11) rfl ?_);refine goesL_ (some 21) rfl rfl Try.func11 (by kernel_rfl) rfl #[] rfl (by (try simp only [mT,mC,mN]);first|done|rfl|(simp only [lDr,lTk];rfl)) ?_;(with_reducible refine (gangsawlaw39_awake.calls k  true _ A4.out).mono ?_);rintro e w9 ⟨rfl,hb⟩;refine ⟨_,rfl, ?_⟩;have n0_:=am (blk_below (g:=gb607) (o:=.cells #[.string a0_0,.slice A0_1 l0_1.length c0_1] 25 (0,0)) (by (with_reducible repeat (first|apply bN|apply bD|apply bA));exact BK607.out) hb);have n1_:=am (blk_below (g:=gb608) (o:=.cells #[.int .i64 a1_0,.int .i64 a1_1] 31 (0,0)) (by (with_reducible repeat (first|apply bN|apply bD|apply bA));exact BK608.out) hb);have n2_:=am (below_step (by repeat (first|(with_reducible first|exact HB.out|apply lA|apply lN|apply lD|refine lS ?_ GE607.out|refine lS ?_ GE608.out)|exact HB.out)) hb);clear BK607;clear BK608;clear HB;have BK607:=n0_;have BK608:=n1_;have HB:=n2_;clear n0_ n1_ n2_;(try clear hb);(try clear hb2);(try clear hk);(try clear hi)))
  (try simp only [Act.put,sA,s0,sS])
  go_cut [56] (fun v56 wc=>∃ (kq : Nat) (x56_5 : Bool),v56 = .bool x56_5 ∧ Aside0 (gangsawlaw39_ProfileMoves.j0 kq a2 x56_5 a0_0 l0_1 a1_0 a1_1 = some r) ∧ Aside0 (kq ≤ k) ∧ Aside0 (wc.heap[gb607]? = some (.cells #[.string a0_0,(.slice A0_1 l0_1.length c0_1)] 25 (0,0))) ∧ Aside0 (wc.heap[gb608]? = some (.cells #[.int .i64 a1_0,.int .i64 a1_1] 31 (0,0))) ∧ Aside0 (Below w.heap.size w wc))
  case first =>
   as_aux_lemma =>
    have H:=HC6.out
    clear HC6
    replace H:=Option.bind_eq_some_iff.mp H
    obtain ⟨t610,A100,H⟩ := H
    replace H : (if t610 = true then (if a1_0 < (-1000000) then (gangsawlaw39_ProfileMoves.j0 k a2 true a0_0 l0_1 a1_0 a1_1) else (if a1_0 > 1000000 then (gangsawlaw39_ProfileMoves.j0 k a2 true a0_0 l0_1 a1_0 a1_1) else (if a1_1 < (-1000000) then (gangsawlaw39_ProfileMoves.j0 k a2 true a0_0 l0_1 a1_0 a1_1) else (if a1_1 > 1000000 then (gangsawlaw39_ProfileMoves.j0 k a2 true a0_0 l0_1 a1_0 a1_1) else (if a2 < 0 then (gangsawlaw39_ProfileMoves.j0 k a2 true a0_0 l0_1 a1_0 a1_1) else (gangsawlaw39_ProfileMoves.j0 k a2 (decide (a2 ≥ (l0_1.length : Int))) a0_0 l0_1 a1_0 a1_1)))))) else (gangsawlaw39_ProfileMoves.j0 k a2 true a0_0 l0_1 a1_0 a1_1)) = some r:=H
    have A10:=am A100
    clear A100
    by_cases c11 : t610 = true
    ·subst c11
     have H1 : (if a1_0 < (-1000000) then (gangsawlaw39_ProfileMoves.j0 k a2 true a0_0 l0_1 a1_0 a1_1) else (if a1_0 > 1000000 then (gangsawlaw39_ProfileMoves.j0 k a2 true a0_0 l0_1 a1_0 a1_1) else (if a1_1 < (-1000000) then (gangsawlaw39_ProfileMoves.j0 k a2 true a0_0 l0_1 a1_0 a1_1) else (if a1_1 > 1000000 then (gangsawlaw39_ProfileMoves.j0 k a2 true a0_0 l0_1 a1_0 a1_1) else (if a2 < 0 then (gangsawlaw39_ProfileMoves.j0 k a2 true a0_0 l0_1 a1_0 a1_1) else (gangsawlaw39_ProfileMoves.j0 k a2 (decide (a2 ≥ (l0_1.length : Int))) a0_0 l0_1 a1_0 a1_1)))))) = some r:=by rw [if_pos rfl] at H;exact H
     clear H
     have H:=H1
     clear H1
     by_cases c12 : a1_0 < (-1000000)
     ·rw [if_pos c12] at H
      have c12b0 : decide (a1_0 < (-1000000)) = true:=decide_eq_true c12
      clear c12
      (first|rw [c12b0]|(simp only [i64_w,i32_w];rw [c12b0])|skip)
      have H':=am H
      clear H
      have hnb13:=NB607_608.out
      have hnc13:=NB608_607.out
      have hcz14_0 : w9.cell? ⟨gb607,0,none⟩ = some (.string a0_0):=(blk_cell BK607.out 0).trans rfl
      have hcz14_1 : w9.cell? ⟨gb607,1,none⟩ = some (.slice A0_1 l0_1.length c0_1):=(blk_cell BK607.out 1).trans rfl
      have hfz14_0:=blk_frozen BK607.out 0
      have hfz14_1:=blk_frozen BK607.out 1
      go_wp2_with (first|((with_reducible refine gate_callee (f:=12) rfl ?_);refine goesL_ (some 24) rfl rfl Try.func12 (by kernel_rfl) rfl #[.agg #[.string a0_0,.slice A0_1 l0_1.length c0_1]] rfl (by (try simp only [mT,mC,mN]);first|done|rfl|(simp only [lDr,lTk];rfl)) ?_;(with_reducible refine (gangsawref39_Short.calls a0_0 _ _ l0_1 true _ ?side1 ?side2 A10.out).mono ?_);(case side1=>repeat (first|exact (kB HR0_1.out HB.out)|(with_reducible first|apply kA|apply kN|apply kD)));(case side2=>exact HC0_1.out);rintro e w15 ⟨rfl,hb⟩;refine ⟨_,rfl, ?_⟩;have n0_:=am (blk_below (g:=gb607) (o:=.cells #[.string a0_0,.slice A0_1 l0_1.length c0_1] 25 (0,0)) (by (with_reducible repeat (first|apply bN|apply bD|apply bA));exact BK607.out) hb);have n1_:=am (blk_below (g:=gb608) (o:=.cells #[.int .i64 a1_0,.int .i64 a1_1] 31 (0,0)) (by (with_reducible repeat (first|apply bN|apply bD|apply bA));exact BK608.out) hb);have n2_:=am (below_step (by repeat (first|(with_reducible first|exact HB.out|apply lA|apply lN|apply lD|refine lS ?_ GE607.out|refine lS ?_ GE608.out)|exact HB.out)) hb);clear BK607;clear BK608;clear HB;have BK607:=n0_;have BK608:=n1_;have HB:=n2_;clear n0_ n1_ n2_;(try clear hb);(try clear hb2);(try clear hk);(try clear hi);have hcz16_0 : w15.cell? ⟨gb608,0,none⟩ = some (.int .i64 a1_0):=(blk_cell BK608.out 0).trans rfl;have hcz16_1 : w15.cell? ⟨gb608,1,none⟩ = some (.int .i64 a1_1):=(blk_cell BK608.out 1).trans rfl;have hfz16_0:=blk_frozen BK608.out 0;have hfz16_1:=blk_frozen BK608.out 1))
      go_meet
      case rel=>exact ⟨_,(true),(by first|rfl|(simp;done)|(simp [*];done)),H',⟨by first|omega|exact Nat.le_refl _⟩,⟨by (with_reducible repeat (first|apply bN|apply bD|apply bA));exact BK607.out⟩,⟨by (with_reducible repeat (first|apply bN|apply bD|apply bA));exact BK608.out⟩,⟨by repeat (first|(with_reducible first|exact HB.out|apply lA|apply lN|apply lD|refine lS ?_ GE607.out|refine lS ?_ GE608.out)|exact HB.out)⟩⟩
     ·rw [if_neg c12] at H
      have c12b0 : decide (a1_0 < (-1000000)) = false:=decide_eq_false c12
      clear c12
      (first|rw [c12b0]|(simp only [i64_w,i32_w];rw [c12b0])|skip)
      by_cases c17 : a1_0 > 1000000
      ·rw [if_pos c17] at H
       have c17b0 : decide (1000000 < a1_0) = true:=decide_eq_true c17
       clear c17
       have H':=am H
       clear H
       have hnb18:=NB607_608.out
       have hnc18:=NB608_607.out
       have hcz19_0 : w9.cell? ⟨gb607,0,none⟩ = some (.string a0_0):=(blk_cell BK607.out 0).trans rfl
       have hcz19_1 : w9.cell? ⟨gb607,1,none⟩ = some (.slice A0_1 l0_1.length c0_1):=(blk_cell BK607.out 1).trans rfl
       have hfz19_0:=blk_frozen BK607.out 0
       have hfz19_1:=blk_frozen BK607.out 1
       go_wp2_with (first|((with_reducible refine gate_callee (f:=12) rfl ?_);refine goesL_ (some 24) rfl rfl Try.func12 (by kernel_rfl) rfl #[.agg #[.string a0_0,.slice A0_1 l0_1.length c0_1]] rfl (by (try simp only [mT,mC,mN]);first|done|rfl|(simp only [lDr,lTk];rfl)) ?_;(with_reducible refine (gangsawref39_Short.calls a0_0 _ _ l0_1 true _ ?side1 ?side2 A10.out).mono ?_);(case side1=>repeat (first|exact (kB HR0_1.out HB.out)|(with_reducible first|apply kA|apply kN|apply kD)));(case side2=>exact HC0_1.out);rintro e w20 ⟨rfl,hb⟩;refine ⟨_,rfl, ?_⟩;have n0_:=am (blk_below (g:=gb607) (o:=.cells #[.string a0_0,.slice A0_1 l0_1.length c0_1] 25 (0,0)) (by (with_reducible repeat (first|apply bN|apply bD|apply bA));exact BK607.out) hb);have n1_:=am (blk_below (g:=gb608) (o:=.cells #[.int .i64 a1_0,.int .i64 a1_1] 31 (0,0)) (by (with_reducible repeat (first|apply bN|apply bD|apply bA));exact BK608.out) hb);have n2_:=am (below_step (by repeat (first|(with_reducible first|exact HB.out|apply lA|apply lN|apply lD|refine lS ?_ GE607.out|refine lS ?_ GE608.out)|exact HB.out)) hb);clear BK607;clear BK608;clear HB;have BK607:=n0_;have BK608:=n1_;have HB:=n2_;clear n0_ n1_ n2_;(try clear hb);(try clear hb2);(try clear hk);(try clear hi);have hcz21_0 : w20.cell? ⟨gb608,0,none⟩ = some (.int .i64 a1_0):=(blk_cell BK608.out 0).trans rfl;have hcz21_1 : w20.cell? ⟨gb608,1,none⟩ = some (.int .i64 a1_1):=(blk_cell BK608.out 1).trans rfl;have hfz21_0:=blk_frozen BK608.out 0;have hfz21_1:=blk_frozen BK608.out 1))
       go_meet
       case rel=>exact ⟨_,(true),(by first|rfl|(simp;done)|(simp [*];done)),H',⟨by first|omega|exact Nat.le_refl _⟩,⟨by (with_reducible repeat (first|apply bN|apply bD|apply bA));exact BK607.out⟩,⟨by (with_reducible repeat (first|apply bN|apply bD|apply bA));exact BK608.out⟩,⟨by repeat (first|(with_reducible first|exact HB.out|apply lA|apply lN|apply lD|refine lS ?_ GE607.out|refine lS ?_ GE608.out)|exact HB.out)⟩⟩
      ·rw [if_neg c17] at H
       have c17b0 : decide (1000000 < a1_0) = false:=decide_eq_false c17
       clear c17
       by_cases c22 : a1_1 < (-1000000)
       ·rw [if_pos c22] at H
        have c22b0 : decide (a1_1 < (-1000000)) = true:=decide_eq_true c22
        clear c22
        have H':=am H
        clear H
        have hnb23:=NB607_608.out
        have hnc23:=NB608_607.out
        have hcz24_0 : w9.cell? ⟨gb607,0,none⟩ = some (.string a0_0):=(blk_cell BK607.out 0).trans rfl
        have hcz24_1 : w9.cell? ⟨gb607,1,none⟩ = some (.slice A0_1 l0_1.length c0_1):=(blk_cell BK607.out 1).trans rfl
        have hfz24_0:=blk_frozen BK607.out 0
        have hfz24_1:=blk_frozen BK607.out 1
        go_wp2_with (first|((with_reducible refine gate_callee (f:=12) rfl ?_);refine goesL_ (some 24) rfl rfl Try.func12 (by kernel_rfl) rfl #[.agg #[.string a0_0,.slice A0_1 l0_1.length c0_1]] rfl (by (try simp only [mT,mC,mN]);first|done|rfl|(simp only [lDr,lTk];rfl)) ?_;(with_reducible refine (gangsawref39_Short.calls a0_0 _ _ l0_1 true _ ?side1 ?side2 A10.out).mono ?_);(case side1=>repeat (first|exact (kB HR0_1.out HB.out)|(with_reducible first|apply kA|apply kN|apply kD)));(case side2=>exact HC0_1.out);rintro e w25 ⟨rfl,hb⟩;refine ⟨_,rfl, ?_⟩;have n0_:=am (blk_below (g:=gb607) (o:=.cells #[.string a0_0,.slice A0_1 l0_1.length c0_1] 25 (0,0)) (by (with_reducible repeat (first|apply bN|apply bD|apply bA));exact BK607.out) hb);have n1_:=am (blk_below (g:=gb608) (o:=.cells #[.int .i64 a1_0,.int .i64 a1_1] 31 (0,0)) (by (with_reducible repeat (first|apply bN|apply bD|apply bA));exact BK608.out) hb);have n2_:=am (below_step (by repeat (first|(with_reducible first|exact HB.out|apply lA|apply lN|apply lD|refine lS ?_ GE607.out|refine lS ?_ GE608.out)|exact HB.out)) hb);clear BK607;clear BK608;clear HB;have BK607:=n0_;have BK608:=n1_;have HB:=n2_;clear n0_ n1_ n2_;(try clear hb);(try clear hb2);(try clear hk);(try clear hi);have hcz26_0 : w25.cell? ⟨gb608,0,none⟩ = some (.int .i64 a1_0):=(blk_cell BK608.out 0).trans rfl;have hcz26_1 : w25.cell? ⟨gb608,1,none⟩ = some (.int .i64 a1_1):=(blk_cell BK608.out 1).trans rfl;have hfz26_0:=blk_frozen BK608.out 0;have hfz26_1:=blk_frozen BK608.out 1))
        go_meet
        case rel=>exact ⟨_,(true),(by first|rfl|(simp;done)|(simp [*];done)),H',⟨by first|omega|exact Nat.le_refl _⟩,⟨by (with_reducible repeat (first|apply bN|apply bD|apply bA));exact BK607.out⟩,⟨by (with_reducible repeat (first|apply bN|apply bD|apply bA));exact BK608.out⟩,⟨by repeat (first|(with_reducible first|exact HB.out|apply lA|apply lN|apply lD|refine lS ?_ GE607.out|refine lS ?_ GE608.out)|exact HB.out)⟩⟩
       ·rw [if_neg c22] at H
        have c22b0 : decide (a1_1 < (-1000000)) = false:=decide_eq_false c22
        clear c22
        by_cases c27 : a1_1 > 1000000
        ·rw [if_pos c27] at H
         have c27b0 : decide (1000000 < a1_1) = true:=decide_eq_true c27
         clear c27
         have H':=am H
         clear H
         have hnb28:=NB607_608.out
         have hnc28:=NB608_607.out
         have hcz29_0 : w9.cell? ⟨gb607,0,none⟩ = some (.string a0_0):=(blk_cell BK607.out 0).trans rfl
         have hcz29_1 : w9.cell? ⟨gb607,1,none⟩ = some (.slice A0_1 l0_1.length c0_1):=(blk_cell BK607.out 1).trans rfl
         have hfz29_0:=blk_frozen BK607.out 0
         have hfz29_1:=blk_frozen BK607.out 1
         go_wp2_with (first|((with_reducible refine gate_callee (f:=12) rfl ?_);refine goesL_ (some 24) rfl rfl Try.func12 (by kernel_rfl) rfl #[.agg #[.string a0_0,.slice A0_1 l0_1.length c0_1]] rfl (by (try simp only [mT,mC,mN]);first|done|rfl|(simp only [lDr,lTk];rfl)) ?_;(with_reducible refine (gangsawref39_Short.calls a0_0 _ _ l0_1 true _ ?side1 ?side2 A10.out).mono ?_);(case side1=>repeat (first|exact (kB HR0_1.out HB.out)|(with_reducible first|apply kA|apply kN|apply kD)));(case side2=>exact HC0_1.out);rintro e w30 ⟨rfl,hb⟩;refine ⟨_,rfl, ?_⟩;have n0_:=am (blk_below (g:=gb607) (o:=.cells #[.string a0_0,.slice A0_1 l0_1.length c0_1] 25 (0,0)) (by (with_reducible repeat (first|apply bN|apply bD|apply bA));exact BK607.out) hb);have n1_:=am (blk_below (g:=gb608) (o:=.cells #[.int .i64 a1_0,.int .i64 a1_1] 31 (0,0)) (by (with_reducible repeat (first|apply bN|apply bD|apply bA));exact BK608.out) hb);have n2_:=am (below_step (by repeat (first|(with_reducible first|exact HB.out|apply lA|apply lN|apply lD|refine lS ?_ GE607.out|refine lS ?_ GE608.out)|exact HB.out)) hb);clear BK607;clear BK608;clear HB;have BK607:=n0_;have BK608:=n1_;have HB:=n2_;clear n0_ n1_ n2_;(try clear hb);(try clear hb2);(try clear hk);(try clear hi);have hcz31_0 : w30.cell? ⟨gb608,0,none⟩ = some (.int .i64 a1_0):=(blk_cell BK608.out 0).trans rfl;have hcz31_1 : w30.cell? ⟨gb608,1,none⟩ = some (.int .i64 a1_1):=(blk_cell BK608.out 1).trans rfl;have hfz31_0:=blk_frozen BK608.out 0;have hfz31_1:=blk_frozen BK608.out 1))
         go_meet
         case rel=>exact ⟨_,(true),(by first|rfl|(simp;done)|(simp [*];done)),H',⟨by first|omega|exact Nat.le_refl _⟩,⟨by (with_reducible repeat (first|apply bN|apply bD|apply bA));exact BK607.out⟩,⟨by (with_reducible repeat (first|apply bN|apply bD|apply bA));exact BK608.out⟩,⟨by repeat (first|(with_reducible first|exact HB.out|apply lA|apply lN|apply lD|refine lS ?_ GE607.out|refine lS ?_ GE608.out)|exact HB.out)⟩⟩
        ·rw [if_neg c27] at H
         have c27b0 : decide (1000000 < a1_1) = false:=decide_eq_false c27
         clear c27
         by_cases c32 : a2 < 0
         ·rw [if_pos c32] at H
          have c32b0 : decide (a2 < 0) = true:=decide_eq_true c32
          clear c32
          have H':=am H
          clear H
          have hnb33:=NB607_608.out
          have hnc33:=NB608_607.out
          have hcz34_0 : w9.cell? ⟨gb607,0,none⟩ = some (.string a0_0):=(blk_cell BK607.out 0).trans rfl
          have hcz34_1 : w9.cell? ⟨gb607,1,none⟩ = some (.slice A0_1 l0_1.length c0_1):=(blk_cell BK607.out 1).trans rfl
          have hfz34_0:=blk_frozen BK607.out 0
          have hfz34_1:=blk_frozen BK607.out 1
          go_wp2_with (first|((with_reducible refine gate_callee (f:=12) rfl ?_);refine goesL_ (some 24) rfl rfl Try.func12 (by kernel_rfl) rfl #[.agg #[.string a0_0,.slice A0_1 l0_1.length c0_1]] rfl (by (try simp only [mT,mC,mN]);first|done|rfl|(simp only [lDr,lTk];rfl)) ?_;(with_reducible refine (gangsawref39_Short.calls a0_0 _ _ l0_1 true _ ?side1 ?side2 A10.out).mono ?_);(case side1=>repeat (first|exact (kB HR0_1.out HB.out)|(with_reducible first|apply kA|apply kN|apply kD)));(case side2=>exact HC0_1.out);rintro e w35 ⟨rfl,hb⟩;refine ⟨_,rfl, ?_⟩;have n0_:=am (blk_below (g:=gb607) (o:=.cells #[.string a0_0,.slice A0_1 l0_1.length c0_1] 25 (0,0)) (by (with_reducible repeat (first|apply bN|apply bD|apply bA));exact BK607.out) hb);have n1_:=am (blk_below (g:=gb608) (o:=.cells #[.int .i64 a1_0,.int .i64 a1_1] 31 (0,0)) (by (with_reducible repeat (first|apply bN|apply bD|apply bA));exact BK608.out) hb);have n2_:=am (below_step (by repeat (first|(with_reducible first|exact HB.out|apply lA|apply lN|apply lD|refine lS ?_ GE607.out|refine lS ?_ GE608.out)|exact HB.out)) hb);clear BK607;clear BK608;clear HB;have BK607:=n0_;have BK608:=n1_;have HB:=n2_;clear n0_ n1_ n2_;(try clear hb);(try clear hb2);(try clear hk);(try clear hi);have hcz36_0 : w35.cell? ⟨gb608,0,none⟩ = some (.int .i64 a1_0):=(blk_cell BK608.out 0).trans rfl;have hcz36_1 : w35.cell? ⟨gb608,1,none⟩ = some (.int .i64 a1_1):=(blk_cell BK608.out 1).trans rfl;have hfz36_0:=blk_frozen BK608.out 0;have hfz36_1:=blk_frozen BK608.out 1))
          go_meet
          case rel=>exact ⟨_,(true),(by first|rfl|(simp;done)|(simp [*];done)),H',⟨by first|omega|exact Nat.le_refl _⟩,⟨by (with_reducible repeat (first|apply bN|apply bD|apply bA));exact BK607.out⟩,⟨by (with_reducible repeat (first|apply bN|apply bD|apply bA));exact BK608.out⟩,⟨by repeat (first|(with_reducible first|exact HB.out|apply lA|apply lN|apply lD|refine lS ?_ GE607.out|refine lS ?_ GE608.out)|exact HB.out)⟩⟩
         ·rw [if_neg c32] at H
          have c32b0 : decide (a2 < 0) = false:=decide_eq_false c32
          clear c32
          have H':=am H
          clear H
          have hnb37:=NB607_608.out
          have hnc37:=NB608_607.out
          have hcz38_0 : w9.cell? ⟨gb607,0,none⟩ = some (.string a0_0):=(blk_cell BK607.out 0).trans rfl
          have hcz38_1 : w9.cell? ⟨gb607,1,none⟩ = some (.slice A0_1 l0_1.length c0_1):=(blk_cell BK607.out 1).trans rfl
          have hfz38_0:=blk_frozen BK607.out 0
          have hfz38_1:=blk_frozen BK607.out 1
          go_wp2_with (first|((with_reducible refine gate_callee (f:=12) rfl ?_);refine goesL_ (some 24) rfl rfl Try.func12 (by kernel_rfl) rfl #[.agg #[.string a0_0,.slice A0_1 l0_1.length c0_1]] rfl (by (try simp only [mT,mC,mN]);first|done|rfl|(simp only [lDr,lTk];rfl)) ?_;(with_reducible refine (gangsawref39_Short.calls a0_0 _ _ l0_1 true _ ?side1 ?side2 A10.out).mono ?_);(case side1=>repeat (first|exact (kB HR0_1.out HB.out)|(with_reducible first|apply kA|apply kN|apply kD)));(case side2=>exact HC0_1.out);rintro e w39 ⟨rfl,hb⟩;refine ⟨_,rfl, ?_⟩;have n0_:=am (blk_below (g:=gb607) (o:=.cells #[.string a0_0,.slice A0_1 l0_1.length c0_1] 25 (0,0)) (by (with_reducible repeat (first|apply bN|apply bD|apply bA));exact BK607.out) hb);have n1_:=am (blk_below (g:=gb608) (o:=.cells #[.int .i64 a1_0,.int .i64 a1_1] 31 (0,0)) (by (with_reducible repeat (first|apply bN|apply bD|apply bA));exact BK608.out) hb);have n2_:=am (below_step (by repeat (first|(with_reducible first|exact HB.out|apply lA|apply lN|apply lD|refine lS ?_ GE607.out|refine lS ?_ GE608.out)|exact HB.out)) hb);clear BK607;clear BK608;clear HB;have BK607:=n0_;have BK608:=n1_;have HB:=n2_;clear n0_ n1_ n2_;(try clear hb);(try clear hb2);(try clear hk);(try clear hi);have hcz40_0 : w39.cell? ⟨gb608,0,none⟩ = some (.int .i64 a1_0):=(blk_cell BK608.out 0).trans rfl;have hcz40_1 : w39.cell? ⟨gb608,1,none⟩ = some (.int .i64 a1_1):=(blk_cell BK608.out 1).trans rfl;have hfz40_0:=blk_frozen BK608.out 0;have hfz40_1:=blk_frozen BK608.out 1;have hcz41_0 : w39.cell? ⟨gb607,0,none⟩ = some (.string a0_0):=(blk_cell BK607.out 0).trans rfl;have hcz41_1 : w39.cell? ⟨gb607,1,none⟩ = some (.slice A0_1 l0_1.length c0_1):=(blk_cell BK607.out 1).trans rfl;have hfz41_0:=blk_frozen BK607.out 0;have hfz41_1:=blk_frozen BK607.out 1))
          go_meet
          case rel=>exact ⟨_,(decide (a2 ≥ (l0_1.length : Int))),(by first|rfl|(simp;done)|(simp [*];done)),H',⟨by first|omega|exact Nat.le_refl _⟩,⟨by (with_reducible repeat (first|apply bN|apply bD|apply bA));exact BK607.out⟩,⟨by (with_reducible repeat (first|apply bN|apply bD|apply bA));exact BK608.out⟩,⟨by repeat (first|(with_reducible first|exact HB.out|apply lA|apply lN|apply lD|refine lS ?_ GE607.out|refine lS ?_ GE608.out)|exact HB.out)⟩⟩
    ·replace c11:=Bool.eq_false_iff.mpr c11
     subst c11
     have H1 : (gangsawlaw39_ProfileMoves.j0 k a2 true a0_0 l0_1 a1_0 a1_1) = some r:=by rw [if_neg (show ¬ (false = true) by decide)] at H;exact H
     clear H
     have H:=H1
     clear H1
     have H':=am H
     clear H
     have hnb42:=NB607_608.out
     have hnc42:=NB608_607.out
     have hcz43_0 : w9.cell? ⟨gb607,0,none⟩ = some (.string a0_0):=(blk_cell BK607.out 0).trans rfl
     have hcz43_1 : w9.cell? ⟨gb607,1,none⟩ = some (.slice A0_1 l0_1.length c0_1):=(blk_cell BK607.out 1).trans rfl
     have hfz43_0:=blk_frozen BK607.out 0
     have hfz43_1:=blk_frozen BK607.out 1
     go_wp2_with (first|((with_reducible refine gate_callee (f:=12) rfl ?_);refine goesL_ (some 24) rfl rfl Try.func12 (by kernel_rfl) rfl #[.agg #[.string a0_0,.slice A0_1 l0_1.length c0_1]] rfl (by (try simp only [mT,mC,mN]);first|done|rfl|(simp only [lDr,lTk];rfl)) ?_;(with_reducible refine (gangsawref39_Short.calls a0_0 _ _ l0_1 false _ ?side1 ?side2 A10.out).mono ?_);(case side1=>repeat (first|exact (kB HR0_1.out HB.out)|(with_reducible first|apply kA|apply kN|apply kD)));(case side2=>exact HC0_1.out);rintro e w44 ⟨rfl,hb⟩;refine ⟨_,rfl, ?_⟩;have n0_:=am (blk_below (g:=gb607) (o:=.cells #[.string a0_0,.slice A0_1 l0_1.length c0_1] 25 (0,0)) (by (with_reducible repeat (first|apply bN|apply bD|apply bA));exact BK607.out) hb);have n1_:=am (blk_below (g:=gb608) (o:=.cells #[.int .i64 a1_0,.int .i64 a1_1] 31 (0,0)) (by (with_reducible repeat (first|apply bN|apply bD|apply bA));exact BK608.out) hb);have n2_:=am (below_step (by repeat (first|(with_reducible first|exact HB.out|apply lA|apply lN|apply lD|refine lS ?_ GE607.out|refine lS ?_ GE608.out)|exact HB.out)) hb);clear BK607;clear BK608;clear HB;have BK607:=n0_;have BK608:=n1_;have HB:=n2_;clear n0_ n1_ n2_;(try clear hb);(try clear hb2);(try clear hk);(try clear hi)))
     go_meet
     case rel=>exact ⟨_,(true),(by first|rfl|(simp;done)|(simp [*];done)),H',⟨by first|omega|exact Nat.le_refl _⟩,⟨by (with_reducible repeat (first|apply bN|apply bD|apply bA));exact BK607.out⟩,⟨by (with_reducible repeat (first|apply bN|apply bD|apply bA));exact BK608.out⟩,⟨by repeat (first|(with_reducible first|exact HB.out|apply lA|apply lN|apply lD|refine lS ?_ GE607.out|refine lS ?_ GE608.out)|exact HB.out)⟩⟩
  case rest =>
   as_aux_lemma =>
    clear HC6
    try clear c1
    try clear c2
    try clear p2
    try clear c3
    try clear c4
    try clear c5
    try clear c10
    try clear c11
    try clear c12
    try clear c12b0
    try clear c13
    try clear c17
    try clear c17b0
    try clear c18
    try clear c22
    try clear c22b0
    try clear c23
    try clear c27
    try clear c27b0
    try clear c28
    try clear c32
    try clear c32b0
    try clear c33
    try clear c37
    try clear c42
    try clear hcz14_0
    try clear hcz14_1
    try clear hcz16_0
    try clear hcz16_1
    try clear hcz19_0
    try clear hcz19_1
    try clear hcz21_0
    try clear hcz21_1
    try clear hcz24_0
    try clear hcz24_1
    try clear hcz26_0
    try clear hcz26_1
    try clear hcz29_0
    try clear hcz29_1
    try clear hcz31_0
    try clear hcz31_1
    try clear hcz34_0
    try clear hcz34_1
    try clear hcz36_0
    try clear hcz36_1
    try clear hcz38_0
    try clear hcz38_1
    try clear hcz40_0
    try clear hcz40_1
    try clear hcz41_0
    try clear hcz41_1
    try clear hcz43_0
    try clear hcz43_1
    try clear hfz14_0
    try clear hfz14_1
    try clear hfz16_0
    try clear hfz16_1
    try clear hfz19_0
    try clear hfz19_1
    try clear hfz21_0
    try clear hfz21_1
    try clear hfz24_0
    try clear hfz24_1
    try clear hfz26_0
    try clear hfz26_1
    try clear hfz29_0
    try clear hfz29_1
    try clear hfz31_0
    try clear hfz31_1
    try clear hfz34_0
    try clear hfz34_1
    try clear hfz36_0
    try clear hfz36_1
    try clear hfz38_0
    try clear hfz38_1
    try clear hfz40_0
    try clear hfz40_1
    try clear hfz41_0
    try clear hfz41_1
    try clear hfz43_0
    try clear hfz43_1
    obtain ⟨kq,x56_5,rfl,HA,HJ5,BK607,BK608,HB⟩ := hcut
    cases kq with
    | zero=>exact absurd HA.out (by simp [gangsawlaw39_ProfileMoves.j0])
    | succ kj5 =>
     have H:=HA.out
     clear HA
     simp only [gangsawlaw39_ProfileMoves.j0] at H
     by_cases c45 : x56_5 = true
     ·subst c45
      have H1 : (some true) = some r:=by rw [if_pos rfl] at H;exact H
      clear H
      have H:=H1
      clear H1
      obtain rfl:=Option.some.inj H
      go_wp2
      go_ret
      exact ⟨by first|rfl|(simp [errW_none,errW_some] <;> rfl)|(simp [*,errW_none,errW_some] <;> rfl),by repeat (first|(with_reducible first|exact HB.out|apply lA|apply lN|apply lD|refine lS ?_ GE607.out|refine lS ?_ GE608.out)|exact HB.out)⟩
     ·replace c45:=Bool.eq_false_iff.mpr c45
      subst c45
      have H1 : (gangsawlaw39_ProfileMoves.l0 kj5 a2 0 a0_0 l0_1 a1_0 a1_1 a0_0 ([] : List (S31))) = some r:=by rw [if_neg (show ¬ (false = true) by decide)] at H;exact H
      clear H
      have H:=H1
      clear H1
      have H':=am H
      clear H
      have hnb46:=NB607_608.out
      have hnc46:=NB608_607.out
      have hcz47_0 : wc.cell? ⟨gb607,0,none⟩ = some (.string a0_0):=(blk_cell BK607.out 0).trans rfl
      have hcz47_1 : wc.cell? ⟨gb607,1,none⟩ = some (.slice A0_1 l0_1.length c0_1):=(blk_cell BK607.out 1).trans rfl
      have hfz47_0:=blk_frozen BK607.out 0
      have hfz47_1:=blk_frozen BK607.out 1
      go_wp2_with (first|((with_reducible refine gate_dst (N:=7) rfl ?_);(try (refine gate_guard (by rfl) ?_;dsimp only));refine box_event ?hg (N:=7) ?hd (cs:=#[.string (⟨#[]⟩ : ByteArray),.slice none 0 0]) (t:=25) ?hr ?_;(case hd=>rfl);(case hg=>rfl);(case hr=>first|(go_simp;done)|(go_simp;rfl));intro gb611 hg w48 hbox hb;have n0_:=am (blk_below (g:=gb607) (o:=.cells #[.string a0_0,.slice A0_1 l0_1.length c0_1] 25 (0,0)) (by (with_reducible repeat (first|apply bN|apply bD|apply bA));exact BK607.out) hb);have n1_:=am (blk_below (g:=gb608) (o:=.cells #[.int .i64 a1_0,.int .i64 a1_1] 31 (0,0)) (by (with_reducible repeat (first|apply bN|apply bD|apply bA));exact BK608.out) hb);have n2_:=am (below_step (by repeat (first|(with_reducible first|exact HB.out|apply lA|apply lN|apply lD|refine lS ?_ GE607.out|refine lS ?_ GE608.out)|exact HB.out)) hb);have n3_:=am (hbox);have n4_:=am ((by rw [hg];exact (below_size (by repeat (first|(with_reducible first|exact HB.out|apply lA|apply lN|apply lD|refine lS ?_ GE607.out|refine lS ?_ GE608.out)|exact HB.out))) : w.heap.size ≤ gb611));have n5_:=am ((by rw [hg];exact (below_size (by repeat (first|(with_reducible first|exact HB.out|apply lA|apply lN|apply lD|refine lS ?_ GE607.out|refine lS ?_ GE608.out)|exact HB.out))) : w.heap.size ≤ gb611));have n6_:=am ((by rw [hg];exact Nat.ne_of_lt (blk_lt (g:=gb607) (o:=.cells #[.string a0_0,.slice A0_1 l0_1.length c0_1] 25 (0,0)) (by (with_reducible repeat (first|apply bN|apply bD|apply bA));exact BK607.out)) : gb607 ≠ gb611));have n7_:=am ((by rw [hg];exact Nat.ne_of_gt (blk_lt (g:=gb607) (o:=.cells #[.string a0_0,.slice A0_1 l0_1.length c0_1] 25 (0,0)) (by (with_reducible repeat (first|apply bN|apply bD|apply bA));exact BK607.out)) : gb611 ≠ gb607));have n8_:=am ((by rw [hg];exact Nat.ne_of_lt (blk_lt (g:=gb608) (o:=.cells #[.int .i64 a1_0,.int .i64 a1_1] 31 (0,0)) (by (with_reducible repeat (first|apply bN|apply bD|apply bA));exact BK608.out)) : gb608 ≠ gb611));have n9_:=am ((by rw [hg];exact Nat.ne_of_gt (blk_lt (g:=gb608) (o:=.cells #[.int .i64 a1_0,.int .i64 a1_1] 31 (0,0)) (by (with_reducible repeat (first|apply bN|apply bD|apply bA));exact BK608.out)) : gb611 ≠ gb608));clear BK607;clear BK608;clear HB;have BK607:=n0_;have BK608:=n1_;have HB:=n2_;have BK611:=n3_;have GW611:=n4_;have GE611:=n5_;have NB607_611:=n6_;have NB611_607:=n7_;have NB608_611:=n8_;have NB611_608:=n9_;clear n0_ n1_ n2_ n3_ n4_ n5_ n6_ n7_ n8_ n9_;clear hb hbox hg;have hnb49:=NB611_607.out;have hnc49:=NB607_611.out;have hnb50:=NB611_608.out;have hnc50:=NB608_611.out;have hcz51_0 : w48.cell? ⟨gb611,0,none⟩ = some (.string (⟨#[]⟩ : ByteArray)):=(blk_cell BK611.out 0).trans rfl;have hcz51_1 : w48.cell? ⟨gb611,1,none⟩ = some (.slice none 0 0):=(blk_cell BK611.out 1).trans rfl;have hfz51_0:=blk_frozen BK611.out 0;have hfz51_1:=blk_frozen BK611.out 1))
      go_loopg [8] kj5 (fun kq v8 w'=>∃ (x8_2 : Int) (x612001_2 : List (S31)) (u612001 : Value),v8 = .int .i64 x8_2 ∧ Aside0 (gangsawlaw39_ProfileMoves.l0 kq a2 x8_2 a0_0 l0_1 a1_0 a1_1 a0_0 x612001_2 = some r) ∧ Aside0 (kq ≤ kj5) ∧ Aside0 (Kd.R k31 31 w' w.heap.size (fun k_=>k_ ≠ gb608) u612001 x612001_2) ∧ Aside0 (w'.heap[gb607]? = some (.cells #[.string a0_0,(.slice A0_1 l0_1.length c0_1)] 25 (0,0))) ∧ Aside0 (w'.heap[gb608]? = some (.cells #[.int .i64 a1_0,.int .i64 a1_1] 31 (0,0))) ∧ Aside0 (w'.heap[gb611]? = some (.cells #[.string a0_0,u612001] 25 (0,0))) ∧ Aside0 (Below w.heap.size w w'))
      case atStart=>exact ⟨(0),(([] : List (S31))),(.slice none 0 0),(by first|rfl|(simp;done)|(simp [*];done)),H',⟨Nat.le_refl _⟩,⟨by first|exact Kd.R_nil _ _ _ _ _|exact Kd.N_nil _ _ _ _ _|exact Kd.V_nil _ _ _ _ _|exact Kd.Q_nil _ _ _ _ _|exact Kd.S_nil _ _ _ _ _⟩,⟨by (with_reducible repeat (first|apply bN|apply bD|apply bA));refine blk_far ?_ NB607_611.out _;(with_reducible repeat (first|apply bN|apply bD|apply bA));refine blk_far ?_ NB607_611.out _;(with_reducible repeat (first|apply bN|apply bD|apply bA));exact BK607.out⟩,⟨by (with_reducible repeat (first|apply bN|apply bD|apply bA));refine blk_far ?_ NB608_611.out _;(with_reducible repeat (first|apply bN|apply bD|apply bA));refine blk_far ?_ NB608_611.out _;(with_reducible repeat (first|apply bN|apply bD|apply bA));exact BK608.out⟩,⟨by (with_reducible repeat (first|apply bN|apply bD|apply bA));refine blk_put (cs:=#[.string a0_0,.slice none 0 0]) ?_ 1 _ rfl;(with_reducible repeat (first|apply bN|apply bD|apply bA));refine blk_put (cs:=#[.string (⟨#[]⟩ : ByteArray),.slice none 0 0]) ?_ 0 _ rfl;(with_reducible repeat (first|apply bN|apply bD|apply bA));exact BK611.out⟩,⟨by repeat (first|(with_reducible first|exact HB.out|apply lA|apply lN|apply lD|refine lS ?_ GE607.out|refine lS ?_ GE608.out|refine lS ?_ GE611.out)|exact HB.out)⟩⟩
      case round =>
       as_aux_lemma =>
        clear H'
        try clear c1
        try clear c2
        try clear p2
        try clear c3
        try clear c4
        try clear c5
        try clear c10
        try clear c11
        try clear c12
        try clear c12b0
        try clear c13
        try clear c17
        try clear c17b0
        try clear c18
        try clear c22
        try clear c22b0
        try clear c23
        try clear c27
        try clear c27b0
        try clear c28
        try clear c32
        try clear c32b0
        try clear c33
        try clear c37
        try clear c42
        try clear c45
        try clear c46
        try clear c49
        try clear c50
        try clear hcz14_0
        try clear hcz14_1
        try clear hcz16_0
        try clear hcz16_1
        try clear hcz19_0
        try clear hcz19_1
        try clear hcz21_0
        try clear hcz21_1
        try clear hcz24_0
        try clear hcz24_1
        try clear hcz26_0
        try clear hcz26_1
        try clear hcz29_0
        try clear hcz29_1
        try clear hcz31_0
        try clear hcz31_1
        try clear hcz34_0
        try clear hcz34_1
        try clear hcz36_0
        try clear hcz36_1
        try clear hcz38_0
        try clear hcz38_1
        try clear hcz40_0
        try clear hcz40_1
        try clear hcz41_0
        try clear hcz41_1
        try clear hcz43_0
        try clear hcz43_1
        try clear hcz47_0
        try clear hcz47_1
        try clear hcz51_0
        try clear hcz51_1
        try clear hfz14_0
        try clear hfz14_1
        try clear hfz16_0
        try clear hfz16_1
        try clear hfz19_0
        try clear hfz19_1
        try clear hfz21_0
        try clear hfz21_1
        try clear hfz24_0
        try clear hfz24_1
        try clear hfz26_0
        try clear hfz26_1
        try clear hfz29_0
        try clear hfz29_1
        try clear hfz31_0
        try clear hfz31_1
        try clear hfz34_0
        try clear hfz34_1
        try clear hfz36_0
        try clear hfz36_1
        try clear hfz38_0
        try clear hfz38_1
        try clear hfz40_0
        try clear hfz40_1
        try clear hfz41_0
        try clear hfz41_1
        try clear hfz43_0
        try clear hfz43_1
        try clear hfz47_0
        try clear hfz47_1
        try clear hfz51_0
        try clear hfz51_1
        try clear p2
        obtain ⟨x8_2,x612001_2,u612001,rfl,HA,HK2,HO_612001,BK607,BK608,BK611,HB⟩ := hrel
        cases gk with
        | zero=>exact absurd HA.out (by simp [gangsawlaw39_ProfileMoves.l0])
        | succ k2 =>
         have H:=HA.out
         clear HA
         simp only [gangsawlaw39_ProfileMoves.l0] at H
         by_cases c52 : x8_2 < (l0_1.length : Int)
         ·rw [if_pos c52] at H
          have c52b0 : decide (x8_2 < (l0_1.length : Int)) = true:=decide_eq_true c52
          clear c52
          by_cases c53 : (l0_1.length : Int) = 0
          ·rw [if_pos c53] at H
           exact absurd H (by simp)
          ·rw [if_neg c53] at H
           have c53b0 : ((l0_1.length : Int) == 0) = false:=beq_eq_false_iff_ne.mpr c53
           have c53b1 : ((l0_1.length : Int) != 0) = true:=bne_iff_ne.mpr c53
           have c53b2 : ¬ (l0_1 = []):=fun h_=>c53 (by rw [h_];rfl)
           obtain ⟨ji54,hji54⟩ : ∃ j_ : Int,(Int.tmod (wrap64 (x8_2 + a2)) (l0_1.length : Int)) = j_:=⟨_,rfl⟩
           replace H : (if 0 ≤ (ji54) then (if (ji54) < (l0_1.length : Int) then (if ((rd_T31 l0_1 (ji54)).f0) < (-1000000) then (some true) else (if ((rd_T31 l0_1 (ji54)).f0) > 1000000 then (some true) else (if ((rd_T31 l0_1 (ji54)).f1) < (-1000000) then (some true) else (if ((rd_T31 l0_1 (ji54)).f1) > 1000000 then (some true) else (if x612001_2.length < 8796093022208 then (gangsawlaw39_ProfileMoves.l0 k2 a2 (wrap64 (x8_2 + 1)) a0_0 l0_1 a1_0 a1_1 a0_0 (x612001_2 ++ [(⟨wrap64 (((rd_T31 l0_1 (ji54)).f0) + a1_0),wrap64 (((rd_T31 l0_1 (ji54)).f1) + a1_1)⟩ : S31)])) else (none)))))) else (none)) else (none)) = some r:=by first|(rw [hji54] at H;exact H)|(simp only [hji54] at H ⊢;exact H)
           by_cases c55 : 0 ≤ (ji54)
           ·rw [if_pos c55] at H
            have c55b0 : decide (0 ≤ (ji54)) = true:=decide_eq_true c55
            clear c55
            by_cases c56 : (ji54) < (l0_1.length : Int)
            ·rw [if_pos c56] at H
             have c56b0 : decide ((ji54) < (l0_1.length : Int)) = true:=decide_eq_true c56
             clear c56
             by_cases c57 : ((rd_T31 l0_1 (ji54)).f0) < (-1000000)
             ·rw [if_pos c57] at H
              have c57b0 : decide (((rd_T31 l0_1 (ji54)).f0) < (-1000000)) = true:=decide_eq_true c57
              clear c57
              obtain rfl:=Option.some.inj H
              have hnb58:=NB607_608.out
              have hnc58:=NB608_607.out
              have hnb59:=NB607_611.out
              have hnc59:=NB611_607.out
              have hcz60_0 : wr.cell? ⟨gb607,0,none⟩ = some (.string a0_0):=(blk_cell BK607.out 0).trans rfl
              have hcz60_1 : wr.cell? ⟨gb607,1,none⟩ = some (.slice A0_1 l0_1.length c0_1):=(blk_cell BK607.out 1).trans rfl
              have hfz60_0:=blk_frozen BK607.out 0
              have hfz60_1:=blk_frozen BK607.out 1
              try go_wp2
              have n0_:=am (Kd.R_drew HO_612001.out)
              have n1_:=am (blk_drew BK607.out)
              have n2_:=am (blk_drew BK608.out)
              have n3_:=am (blk_drew BK611.out)
              have n4_:=am (below_drew1 HB.out)
              clear HO_612001
              clear BK607
              clear BK608
              clear BK611
              clear HB
              have HO_612001:=n0_
              have BK607:=n1_
              have BK608:=n2_
              have BK611:=n3_
              have HB:=n4_
              clear n0_ n1_ n2_ n3_ n4_
              have p612 : 0 ≤ ((ji54) : Int):=of_decide_eq_true (by first|(with_reducible assumption)|assumption)
              have q612 : (ji54) < (l0_1.length : Int):=of_decide_eq_true (by first|(with_reducible assumption)|assumption)
              obtain ⟨ad612,e612,hx612_0,hx612_1⟩ := at_T31 HR0_1.out (ji54) p612 q612
              have hw612_1:=hx612_1
              have hw612_0:=hx612_0
              cases e612
              replace hx612_0:=(HB.out.cell (World.block_lt_of_cell? w _ hx612_0)).trans hx612_0
              replace hx612_1:=(HB.out.cell (World.block_lt_of_cell? w _ hx612_1)).trans hx612_1
              replace p612:=eq_true p612
              replace q612:=eq_true q612
              refine start_ (n:=13) (S:=fun w'=>w'.cell? ⟨gb607,0,none⟩ = some (.string a0_0) ∧ w'.cell? ⟨gb607,1,none⟩ = some (.slice (some ad612) l0_1.length c0_1) ∧ w'.cell? (ad612.add (((ji54)).toNat * 2)) = some (.int .i64 ((rd_T31 l0_1 (ji54)).f0)) ∧ w'.cell? ⟨(ad612.add (((ji54)).toNat * 2)).block,(ad612.add (((ji54)).toNat * 2)).off + 1,none⟩ = some (.int .i64 ((rd_T31 l0_1 (ji54)).f1))) (ds:=[]) #[f_,f_,f_,f_,f_,f_,f_,f_,f_,f_,f_,f_,f_] (by kernel_rfl) rfl rfl ⟨(blk_cell BK607.out 0).trans rfl,(blk_cell BK607.out 1).trans rfl,((HB.out.cell (World.block_lt_of_cell? w _ hw612_0)).trans hw612_0),((HB.out.cell (World.block_lt_of_cell? w _ hw612_1)).trans hw612_1)⟩ (fun hHeld=>?_);refine with_tabW gangsawlaw39_ProfileMoves.tab9 gangsawlaw39_ProfileMoves.bits9 (fun HT_ HW_=>?_)
              generalize wr.drew = w61 at HO_612001 BK607 BK608 BK611 HB hx612_0 hx612_1 hHeld ⊢
              refine pure_ (i:=0) (N:=some 67) (v:=?_) (a':=?_) #[t_,f_,f_,f_,f_,f_,f_,f_,f_,f_,f_,f_,f_] rfl rfl (any_of HT_.out (by kernel_rfl)) (fun _ _ _ h=>h) (Or.inl ⟨by rfl, ?_⟩) ?_ ?_
              rotate_left
              ·intro w'
               go_simp
               with_reducible rfl
              rotate_left
              ·simp only [Act.put,sA,s0,sS,i64_w,i32_w]
               rfl
              refine pure_ (i:=2) (N:=some 69) (v:=?_) (a':=?_) #[t_,f_,t_,f_,f_,f_,f_,f_,f_,f_,f_,f_,f_] rfl rfl (any_of HT_.out (by kernel_rfl)) (fun _ _ _ h=>h) (Or.inl ⟨by rfl, ?_⟩) ?_ ?_
              rotate_left
              ·intro w'
               go_simp
               with_reducible rfl
              rotate_left
              ·simp only [Act.put,sA,s0,sS,i64_w,i32_w]
               rfl
              refine pure_ (i:=3) (N:=some 70) (v:=?_) (a':=?_) #[t_,f_,t_,t_,f_,f_,f_,f_,f_,f_,f_,f_,f_] rfl rfl (any_of HT_.out (by kernel_rfl)) (fun _ _ _ h=>h) (Or.inl ⟨by rfl, ?_⟩) ?_ ?_
              rotate_left
              ·intro w'
               go_simp
               with_reducible rfl
              rotate_left
              ·simp only [Act.put,sA,s0,sS,i64_w,i32_w]
               rfl
              refine pure_ (i:=4) (N:=some 71) (v:=?_) (a':=?_) #[t_,f_,t_,t_,t_,f_,f_,f_,f_,f_,f_,f_,f_] rfl rfl (any_of HT_.out (by kernel_rfl)) (fun _ _ _ h=>h) (Or.inl ⟨by rfl, ?_⟩) ?_ ?_
              rotate_left
              ·intro w'
               go_simp
               with_reducible rfl
              rotate_left
              ·simp only [Act.put,sA,s0,sS,i64_w,i32_w]
               rfl
              refine pure_ (i:=5) (N:=some 72) (v:=?_) (a':=?_) #[t_,f_,t_,t_,t_,t_,f_,f_,f_,f_,f_,f_,f_] rfl rfl (any_of HT_.out (by kernel_rfl)) (fun _ _ _ h=>h) (Or.inl ⟨by rfl, ?_⟩) ?_ ?_
              rotate_left
              ·intro w'
               go_simp
               with_reducible rfl
              rotate_left
              ·simp only [Act.put,sA,s0,sS,i64_w,i32_w]
               rfl
              refine take_ (i:=1) (N:=some 68) (v:=?_) (a':=?_) #[t_,t_,t_,t_,t_,t_,f_,f_,f_,f_,f_,f_,f_] rfl rfl (take_ofW HT_.out HW_.out (by kernel_rfl)) (fun _ _ _ h=>h) (Or.inl ⟨by rfl, ?_⟩) hHeld ?_ ?_
              rotate_left
              ·rintro w' ⟨s0,s1,s2,s3⟩
               go_simp
               with_reducible rfl
              rotate_left
              ·simp only [Act.put,sA,s0,sS,i64_w,i32_w]
               rfl
              refine take_ (i:=6) (N:=some 73) (v:=?_) (a':=?_) #[t_,t_,t_,t_,t_,t_,t_,f_,f_,f_,f_,f_,f_] rfl rfl (take_ofW HT_.out HW_.out (by kernel_rfl)) (fun _ _ _ h=>h) (Or.inl ⟨by rfl, ?_⟩) hHeld ?_ ?_
              rotate_left
              ·rintro w' ⟨s0,s1,s2,s3⟩
               go_simp
               with_reducible rfl
              rotate_left
              ·simp only [Act.put,sA,s0,sS,i64_w,i32_w]
               rfl
              refine pure_ (i:=7) (N:=some 74) (v:=?_) (a':=?_) #[t_,t_,t_,t_,t_,t_,t_,t_,f_,f_,f_,f_,f_] rfl rfl (any_of HT_.out (by kernel_rfl)) (fun _ _ _ h=>h) (Or.inl ⟨by rfl, ?_⟩) ?_ ?_
              rotate_left
              ·intro w'
               go_simp
               with_reducible rfl
              rotate_left
              ·simp only [Act.put,sA,s0,sS,i64_w,i32_w]
               rfl
              refine pure_ (i:=8) (N:=some 75) (v:=?_) (a':=?_) #[t_,t_,t_,t_,t_,t_,t_,t_,t_,f_,f_,f_,f_] rfl rfl (any_of HT_.out (by kernel_rfl)) (fun _ _ _ h=>h) (Or.inl ⟨by rfl, ?_⟩) ?_ ?_
              rotate_left
              ·intro w'
               go_simp
               with_reducible rfl
              rotate_left
              ·simp only [Act.put,sA,s0,sS,i64_w,i32_w]
               rfl
              refine pure_ (i:=9) (N:=some 76) (v:=?_) (a':=?_) #[t_,t_,t_,t_,t_,t_,t_,t_,t_,t_,f_,f_,f_] rfl rfl (any_of HT_.out (by kernel_rfl)) (fun _ _ _ h=>h) (Or.inl ⟨by rfl, ?_⟩) ?_ ?_
              rotate_left
              ·intro w'
               go_simp
               with_reducible rfl
              rotate_left
              ·simp only [Act.put,sA,s0,sS,i64_w,i32_w]
               rfl
              refine take_ (i:=10) (N:=some 77) (v:=?_) (a':=?_) #[t_,t_,t_,t_,t_,t_,t_,t_,t_,t_,t_,f_,f_] rfl rfl (take_ofW HT_.out HW_.out (by kernel_rfl)) (fun _ _ _ h=>h) (Or.inl ⟨by rfl, ?_⟩) hHeld ?_ ?_
              rotate_left
              ·rintro w' ⟨s0,s1,s2,s3⟩
               go_simp
               with_reducible rfl
              rotate_left
              ·simp only [Act.put,sA,s0,sS,i64_w,i32_w]
               rfl
              refine one_ (i:=11) (N:=some 9) #[t_,t_,t_,t_,t_,t_,t_,t_,t_,t_,t_,t_,f_] rfl rfl (one_of HT_.out (by kernel_rfl)) (by decide) (fun K hK=>?_)
              refine box_step ?hg (N:=9) ?hd (cs:=#[.int .i64 0,.int .i64 0]) (t:=31) ?hr ?_;(case hd=>rfl);(case hg=>rfl);(case hr=>first|(go_simp;done)|(go_simp;rfl))
              intro gb613 hg w62 hbox hb
              have n0_:=am (Kd.R_below (Kd.R_elderB (by (with_reducible repeat (first|apply rA|apply rN|apply rD));exact HO_612001.out) gb613 (Nat.le_of_eq hg.symm)) hb)
              have n1_:=am (blk_below (g:=gb607) (o:=.cells #[.string a0_0,.slice (some ad612) l0_1.length c0_1] 25 (0,0)) (by (with_reducible repeat (first|apply bN|apply bD|apply bA));exact BK607.out) hb)
              have n2_:=am (blk_below (g:=gb608) (o:=.cells #[.int .i64 a1_0,.int .i64 a1_1] 31 (0,0)) (by (with_reducible repeat (first|apply bN|apply bD|apply bA));exact BK608.out) hb)
              have n3_:=am (blk_below (g:=gb611) (o:=.cells #[.string a0_0,u612001] 25 (0,0)) (by (with_reducible repeat (first|apply bN|apply bD|apply bA));exact BK611.out) hb)
              have n4_:=am (below_step (by repeat (first|(with_reducible first|exact HB.out|apply lA|apply lN|apply lD|refine lS ?_ GE607.out|refine lS ?_ GE608.out|refine lS ?_ GE611.out)|exact HB.out)) hb)
              have n5_:=am (hbox)
              have n6_:=am ((by rw [hg];exact (below_size (by repeat (first|(with_reducible first|exact HB.out|apply lA|apply lN|apply lD|refine lS ?_ GE607.out|refine lS ?_ GE608.out|refine lS ?_ GE611.out)|exact HB.out))) : w.heap.size ≤ gb613))
              have n7_:=am ((by rw [hg];exact (below_size (by repeat (first|(with_reducible first|exact HB.out|apply lA|apply lN|apply lD|refine lS ?_ GE607.out|refine lS ?_ GE608.out|refine lS ?_ GE611.out)|exact HB.out))) : w.heap.size ≤ gb613))
              have n8_:=am ((by rw [hg];exact Nat.ne_of_lt (blk_lt (g:=gb607) (o:=.cells #[.string a0_0,.slice (some ad612) l0_1.length c0_1] 25 (0,0)) (by (with_reducible repeat (first|apply bN|apply bD|apply bA));exact BK607.out)) : gb607 ≠ gb613))
              have n9_:=am ((by rw [hg];exact Nat.ne_of_gt (blk_lt (g:=gb607) (o:=.cells #[.string a0_0,.slice (some ad612) l0_1.length c0_1] 25 (0,0)) (by (with_reducible repeat (first|apply bN|apply bD|apply bA));exact BK607.out)) : gb613 ≠ gb607))
              have n10_:=am ((by rw [hg];exact Nat.ne_of_lt (blk_lt (g:=gb608) (o:=.cells #[.int .i64 a1_0,.int .i64 a1_1] 31 (0,0)) (by (with_reducible repeat (first|apply bN|apply bD|apply bA));exact BK608.out)) : gb608 ≠ gb613))
              have n11_:=am ((by rw [hg];exact Nat.ne_of_gt (blk_lt (g:=gb608) (o:=.cells #[.int .i64 a1_0,.int .i64 a1_1] 31 (0,0)) (by (with_reducible repeat (first|apply bN|apply bD|apply bA));exact BK608.out)) : gb613 ≠ gb608))
              have n12_:=am ((by rw [hg];exact Nat.ne_of_lt (blk_lt (g:=gb611) (o:=.cells #[.string a0_0,u612001] 25 (0,0)) (by (with_reducible repeat (first|apply bN|apply bD|apply bA));exact BK611.out)) : gb611 ≠ gb613))
              have n13_:=am ((by rw [hg];exact Nat.ne_of_gt (blk_lt (g:=gb611) (o:=.cells #[.string a0_0,u612001] 25 (0,0)) (by (with_reducible repeat (first|apply bN|apply bD|apply bA));exact BK611.out)) : gb613 ≠ gb611))
              clear HO_612001
              clear BK607
              clear BK608
              clear BK611
              clear HB
              have HO_612001:=n0_
              have BK607:=n1_
              have BK608:=n2_
              have BK611:=n3_
              have HB:=n4_
              have BK613:=n5_
              have GW613:=n6_
              have GE613:=n7_
              have NB607_613:=n8_
              have NB613_607:=n9_
              have NB608_613:=n10_
              have NB613_608:=n11_
              have NB611_613:=n12_
              have NB613_611:=n13_
              clear n0_ n1_ n2_ n3_ n4_ n5_ n6_ n7_ n8_ n9_ n10_ n11_ n12_ n13_
              clear hb hbox hg
              refine hK.out _ _ ⟨(blk_cell BK607.out 0).trans rfl,(blk_cell BK607.out 1).trans rfl,((HB.out.cell (World.block_lt_of_cell? w _ hw612_0)).trans hw612_0),((HB.out.cell (World.block_lt_of_cell? w _ hw612_1)).trans hw612_1)⟩ (fun hHeld=>?_)
              clear hK K
              refine norm_ (a':=?_) ?_ ?_
              rotate_left
              ·show Act.put _ (some 9) _ = _
               simp only [Act.put,sA,s0,sS,i64_w,i32_w]
               rfl
              refine one_ (i:=12) (N:=none) #[t_,t_,t_,t_,t_,t_,t_,t_,t_,t_,t_,t_,t_] rfl rfl (one_of HT_.out (by kernel_rfl)) (by decide) (fun K hK=>?_)
              have hs63 : w62.cell? ⟨gb613,0,none⟩ = some (.int .i64 0):=(blk_cell BK613.out 0).trans rfl
              have hfs63:=blk_frozen BK613.out 0
              have hns63_0:=NB607_613.out
              have hns63_1:=NB608_613.out
              have hns63_2:=NB611_613.out
              have hms63_0:=NB613_607.out
              have hms63_1:=NB613_608.out
              have hms63_2:=NB613_611.out
              have hs64 : w62.cell? ⟨gb613,1,none⟩ = some (.int .i64 0):=(blk_cell BK613.out 1).trans rfl
              have hfs64:=blk_frozen BK613.out 1
              have hns64_0:=NB607_613.out
              have hns64_1:=NB608_613.out
              have hns64_2:=NB611_613.out
              have hms64_0:=NB613_607.out
              have hms64_1:=NB613_608.out
              have hms64_2:=NB613_611.out
              refine skip_ (w1:=?_) (by rfl) rfl ?_ ?_
              rotate_left
              ·go_simp
               rfl
              refine hK.out _ _ ⟨((cell_far (p:=⟨gb613,_,none⟩) NB607_613.out _).trans (((cell_far (p:=⟨gb613,_,none⟩) NB607_613.out _).trans (hHeld.1)))),((cell_far (p:=⟨gb613,_,none⟩) NB607_613.out _).trans (((cell_far (p:=⟨gb613,_,none⟩) NB607_613.out _).trans (hHeld.2.1)))),((cell_far (p:=⟨gb613,_,none⟩) (by first|exact Nat.ne_of_lt (Nat.lt_of_lt_of_le (by have:=World.block_lt_of_cell? _ _ hw612_0;first|rwa [add_block] at this|exact this) GW613.out)|(rw [add_block];exact Nat.ne_of_lt (Nat.lt_of_lt_of_le (by have:=World.block_lt_of_cell? _ _ hw612_0;first|rwa [add_block] at this|exact this) GW613.out))|(show (Addr.add _ _).block ≠ _;rw [add_block];exact Nat.ne_of_lt (Nat.lt_of_lt_of_le (by have:=World.block_lt_of_cell? _ _ hw612_0;first|rwa [add_block] at this|exact this) GW613.out))|(dsimp only;exact Nat.ne_of_lt (Nat.lt_of_lt_of_le (by have:=World.block_lt_of_cell? _ _ hw612_0;first|rwa [add_block] at this|exact this) GW613.out))) _).trans (((cell_far (p:=⟨gb613,_,none⟩) (by first|exact Nat.ne_of_lt (Nat.lt_of_lt_of_le (by have:=World.block_lt_of_cell? _ _ hw612_0;first|rwa [add_block] at this|exact this) GW613.out)|(rw [add_block];exact Nat.ne_of_lt (Nat.lt_of_lt_of_le (by have:=World.block_lt_of_cell? _ _ hw612_0;first|rwa [add_block] at this|exact this) GW613.out))|(show (Addr.add _ _).block ≠ _;rw [add_block];exact Nat.ne_of_lt (Nat.lt_of_lt_of_le (by have:=World.block_lt_of_cell? _ _ hw612_0;first|rwa [add_block] at this|exact this) GW613.out))|(dsimp only;exact Nat.ne_of_lt (Nat.lt_of_lt_of_le (by have:=World.block_lt_of_cell? _ _ hw612_0;first|rwa [add_block] at this|exact this) GW613.out))) _).trans (hHeld.2.2.1)))),((cell_far (p:=⟨gb613,_,none⟩) (by first|exact Nat.ne_of_lt (Nat.lt_of_lt_of_le (by have:=World.block_lt_of_cell? _ _ hw612_1;first|rwa [add_block] at this|exact this) GW613.out)|(rw [add_block];exact Nat.ne_of_lt (Nat.lt_of_lt_of_le (by have:=World.block_lt_of_cell? _ _ hw612_1;first|rwa [add_block] at this|exact this) GW613.out))|(show (Addr.add _ _).block ≠ _;rw [add_block];exact Nat.ne_of_lt (Nat.lt_of_lt_of_le (by have:=World.block_lt_of_cell? _ _ hw612_1;first|rwa [add_block] at this|exact this) GW613.out))|(dsimp only;exact Nat.ne_of_lt (Nat.lt_of_lt_of_le (by have:=World.block_lt_of_cell? _ _ hw612_1;first|rwa [add_block] at this|exact this) GW613.out))) _).trans (((cell_far (p:=⟨gb613,_,none⟩) (by first|exact Nat.ne_of_lt (Nat.lt_of_lt_of_le (by have:=World.block_lt_of_cell? _ _ hw612_1;first|rwa [add_block] at this|exact this) GW613.out)|(rw [add_block];exact Nat.ne_of_lt (Nat.lt_of_lt_of_le (by have:=World.block_lt_of_cell? _ _ hw612_1;first|rwa [add_block] at this|exact this) GW613.out))|(show (Addr.add _ _).block ≠ _;rw [add_block];exact Nat.ne_of_lt (Nat.lt_of_lt_of_le (by have:=World.block_lt_of_cell? _ _ hw612_1;first|rwa [add_block] at this|exact this) GW613.out))|(dsimp only;exact Nat.ne_of_lt (Nat.lt_of_lt_of_le (by have:=World.block_lt_of_cell? _ _ hw612_1;first|rwa [add_block] at this|exact this) GW613.out))) _).trans (hHeld.2.2.2))))⟩ (fun hHeld=>?_)
              clear hK K
              refine done_ (done_of HT_.out (by kernel_rfl)) ?_
              have hnb65:=NB613_607.out
              have hnc65:=NB607_613.out
              have hnb66:=NB613_608.out
              have hnc66:=NB608_613.out
              have hnb67:=NB613_611.out
              have hnc67:=NB611_613.out
              have hcz68_0 : w62.cell? ⟨gb613,0,none⟩ = some (.int .i64 0):=(blk_cell BK613.out 0).trans rfl
              have hcz68_1 : w62.cell? ⟨gb613,1,none⟩ = some (.int .i64 0):=(blk_cell BK613.out 1).trans rfl
              have hfz68_0:=blk_frozen BK613.out 0
              have hfz68_1:=blk_frozen BK613.out 1
              try go_wp2
              go_ret
              exact ⟨by first|rfl|(simp [errW_none,errW_some] <;> rfl)|(simp only [← hji54];first|rfl|(simp [errW_none,errW_some] <;> rfl))|(simp [*,errW_none,errW_some] <;> rfl),by repeat (first|(with_reducible first|exact HB.out|apply lA|apply lN|apply lD|refine lS ?_ GE607.out|refine lS ?_ GE608.out|refine lS ?_ GE611.out|refine lS ?_ GE613.out)|exact HB.out)⟩
             ·rw [if_neg c57] at H
              have c57b0 : decide (((rd_T31 l0_1 (ji54)).f0) < (-1000000)) = false:=decide_eq_false c57
              clear c57
              by_cases c69 : ((rd_T31 l0_1 (ji54)).f0) > 1000000
              ·rw [if_pos c69] at H
               have c69b0 : decide (1000000 < ((rd_T31 l0_1 (ji54)).f0)) = true:=decide_eq_true c69
               clear c69
               obtain rfl:=Option.some.inj H
               have hnb70:=NB607_608.out
               have hnc70:=NB608_607.out
               have hnb71:=NB607_611.out
               have hnc71:=NB611_607.out
               have hcz72_0 : wr.cell? ⟨gb607,0,none⟩ = some (.string a0_0):=(blk_cell BK607.out 0).trans rfl
               have hcz72_1 : wr.cell? ⟨gb607,1,none⟩ = some (.slice A0_1 l0_1.length c0_1):=(blk_cell BK607.out 1).trans rfl
               have hfz72_0:=blk_frozen BK607.out 0
               have hfz72_1:=blk_frozen BK607.out 1
               try go_wp2
               have n0_:=am (Kd.R_drew HO_612001.out)
               have n1_:=am (blk_drew BK607.out)
               have n2_:=am (blk_drew BK608.out)
               have n3_:=am (blk_drew BK611.out)
               have n4_:=am (below_drew1 HB.out)
               clear HO_612001
               clear BK607
               clear BK608
               clear BK611
               clear HB
               have HO_612001:=n0_
               have BK607:=n1_
               have BK608:=n2_
               have BK611:=n3_
               have HB:=n4_
               clear n0_ n1_ n2_ n3_ n4_
               have p612 : 0 ≤ ((ji54) : Int):=of_decide_eq_true (by first|(with_reducible assumption)|assumption)
               have q612 : (ji54) < (l0_1.length : Int):=of_decide_eq_true (by first|(with_reducible assumption)|assumption)
               obtain ⟨ad612,e612,hx612_0,hx612_1⟩ := at_T31 HR0_1.out (ji54) p612 q612
               have hw612_1:=hx612_1
               have hw612_0:=hx612_0
               cases e612
               replace hx612_0:=(HB.out.cell (World.block_lt_of_cell? w _ hx612_0)).trans hx612_0
               replace hx612_1:=(HB.out.cell (World.block_lt_of_cell? w _ hx612_1)).trans hx612_1
               replace p612:=eq_true p612
               replace q612:=eq_true q612
               refine start_ (n:=13) (S:=fun w'=>w'.cell? ⟨gb607,0,none⟩ = some (.string a0_0) ∧ w'.cell? ⟨gb607,1,none⟩ = some (.slice (some ad612) l0_1.length c0_1) ∧ w'.cell? (ad612.add (((ji54)).toNat * 2)) = some (.int .i64 ((rd_T31 l0_1 (ji54)).f0)) ∧ w'.cell? ⟨(ad612.add (((ji54)).toNat * 2)).block,(ad612.add (((ji54)).toNat * 2)).off + 1,none⟩ = some (.int .i64 ((rd_T31 l0_1 (ji54)).f1))) (ds:=[]) #[f_,f_,f_,f_,f_,f_,f_,f_,f_,f_,f_,f_,f_] (by kernel_rfl) rfl rfl ⟨(blk_cell BK607.out 0).trans rfl,(blk_cell BK607.out 1).trans rfl,((HB.out.cell (World.block_lt_of_cell? w _ hw612_0)).trans hw612_0),((HB.out.cell (World.block_lt_of_cell? w _ hw612_1)).trans hw612_1)⟩ (fun hHeld=>?_);refine with_tabW gangsawlaw39_ProfileMoves.tab9 gangsawlaw39_ProfileMoves.bits9 (fun HT_ HW_=>?_)
               generalize wr.drew = w73 at HO_612001 BK607 BK608 BK611 HB hx612_0 hx612_1 hHeld ⊢
               refine pure_ (i:=0) (N:=some 67) (v:=?_) (a':=?_) #[t_,f_,f_,f_,f_,f_,f_,f_,f_,f_,f_,f_,f_] rfl rfl (any_of HT_.out (by kernel_rfl)) (fun _ _ _ h=>h) (Or.inl ⟨by rfl, ?_⟩) ?_ ?_
               rotate_left
               ·intro w'
                go_simp
                with_reducible rfl
               rotate_left
               ·simp only [Act.put,sA,s0,sS,i64_w,i32_w]
                rfl
               refine pure_ (i:=2) (N:=some 69) (v:=?_) (a':=?_) #[t_,f_,t_,f_,f_,f_,f_,f_,f_,f_,f_,f_,f_] rfl rfl (any_of HT_.out (by kernel_rfl)) (fun _ _ _ h=>h) (Or.inl ⟨by rfl, ?_⟩) ?_ ?_
               rotate_left
               ·intro w'
                go_simp
                with_reducible rfl
               rotate_left
               ·simp only [Act.put,sA,s0,sS,i64_w,i32_w]
                rfl
               refine pure_ (i:=3) (N:=some 70) (v:=?_) (a':=?_) #[t_,f_,t_,t_,f_,f_,f_,f_,f_,f_,f_,f_,f_] rfl rfl (any_of HT_.out (by kernel_rfl)) (fun _ _ _ h=>h) (Or.inl ⟨by rfl, ?_⟩) ?_ ?_
               rotate_left
               ·intro w'
                go_simp
                with_reducible rfl
               rotate_left
               ·simp only [Act.put,sA,s0,sS,i64_w,i32_w]
                rfl
               refine pure_ (i:=4) (N:=some 71) (v:=?_) (a':=?_) #[t_,f_,t_,t_,t_,f_,f_,f_,f_,f_,f_,f_,f_] rfl rfl (any_of HT_.out (by kernel_rfl)) (fun _ _ _ h=>h) (Or.inl ⟨by rfl, ?_⟩) ?_ ?_
               rotate_left
               ·intro w'
                go_simp
                with_reducible rfl
               rotate_left
               ·simp only [Act.put,sA,s0,sS,i64_w,i32_w]
                rfl
               refine pure_ (i:=5) (N:=some 72) (v:=?_) (a':=?_) #[t_,f_,t_,t_,t_,t_,f_,f_,f_,f_,f_,f_,f_] rfl rfl (any_of HT_.out (by kernel_rfl)) (fun _ _ _ h=>h) (Or.inl ⟨by rfl, ?_⟩) ?_ ?_
               rotate_left
               ·intro w'
                go_simp
                with_reducible rfl
               rotate_left
               ·simp only [Act.put,sA,s0,sS,i64_w,i32_w]
                rfl
               refine take_ (i:=1) (N:=some 68) (v:=?_) (a':=?_) #[t_,t_,t_,t_,t_,t_,f_,f_,f_,f_,f_,f_,f_] rfl rfl (take_ofW HT_.out HW_.out (by kernel_rfl)) (fun _ _ _ h=>h) (Or.inl ⟨by rfl, ?_⟩) hHeld ?_ ?_
               rotate_left
               ·rintro w' ⟨s0,s1,s2,s3⟩
                go_simp
                with_reducible rfl
               rotate_left
               ·simp only [Act.put,sA,s0,sS,i64_w,i32_w]
                rfl
               refine take_ (i:=6) (N:=some 73) (v:=?_) (a':=?_) #[t_,t_,t_,t_,t_,t_,t_,f_,f_,f_,f_,f_,f_] rfl rfl (take_ofW HT_.out HW_.out (by kernel_rfl)) (fun _ _ _ h=>h) (Or.inl ⟨by rfl, ?_⟩) hHeld ?_ ?_
               rotate_left
               ·rintro w' ⟨s0,s1,s2,s3⟩
                go_simp
                with_reducible rfl
               rotate_left
               ·simp only [Act.put,sA,s0,sS,i64_w,i32_w]
                rfl
               refine pure_ (i:=7) (N:=some 74) (v:=?_) (a':=?_) #[t_,t_,t_,t_,t_,t_,t_,t_,f_,f_,f_,f_,f_] rfl rfl (any_of HT_.out (by kernel_rfl)) (fun _ _ _ h=>h) (Or.inl ⟨by rfl, ?_⟩) ?_ ?_
               rotate_left
               ·intro w'
                go_simp
                with_reducible rfl
               rotate_left
               ·simp only [Act.put,sA,s0,sS,i64_w,i32_w]
                rfl
               refine pure_ (i:=8) (N:=some 75) (v:=?_) (a':=?_) #[t_,t_,t_,t_,t_,t_,t_,t_,t_,f_,f_,f_,f_] rfl rfl (any_of HT_.out (by kernel_rfl)) (fun _ _ _ h=>h) (Or.inl ⟨by rfl, ?_⟩) ?_ ?_
               rotate_left
               ·intro w'
                go_simp
                with_reducible rfl
               rotate_left
               ·simp only [Act.put,sA,s0,sS,i64_w,i32_w]
                rfl
               refine pure_ (i:=9) (N:=some 76) (v:=?_) (a':=?_) #[t_,t_,t_,t_,t_,t_,t_,t_,t_,t_,f_,f_,f_] rfl rfl (any_of HT_.out (by kernel_rfl)) (fun _ _ _ h=>h) (Or.inl ⟨by rfl, ?_⟩) ?_ ?_
               rotate_left
               ·intro w'
                go_simp
                with_reducible rfl
               rotate_left
               ·simp only [Act.put,sA,s0,sS,i64_w,i32_w]
                rfl
               refine take_ (i:=10) (N:=some 77) (v:=?_) (a':=?_) #[t_,t_,t_,t_,t_,t_,t_,t_,t_,t_,t_,f_,f_] rfl rfl (take_ofW HT_.out HW_.out (by kernel_rfl)) (fun _ _ _ h=>h) (Or.inl ⟨by rfl, ?_⟩) hHeld ?_ ?_
               rotate_left
               ·rintro w' ⟨s0,s1,s2,s3⟩
                go_simp
                with_reducible rfl
               rotate_left
               ·simp only [Act.put,sA,s0,sS,i64_w,i32_w]
                rfl
               refine one_ (i:=11) (N:=some 9) #[t_,t_,t_,t_,t_,t_,t_,t_,t_,t_,t_,t_,f_] rfl rfl (one_of HT_.out (by kernel_rfl)) (by decide) (fun K hK=>?_)
               refine box_step ?hg (N:=9) ?hd (cs:=#[.int .i64 0,.int .i64 0]) (t:=31) ?hr ?_;(case hd=>rfl);(case hg=>rfl);(case hr=>first|(go_simp;done)|(go_simp;rfl))
               intro gb613 hg w74 hbox hb
               have n0_:=am (Kd.R_below (Kd.R_elderB (by (with_reducible repeat (first|apply rA|apply rN|apply rD));exact HO_612001.out) gb613 (Nat.le_of_eq hg.symm)) hb)
               have n1_:=am (blk_below (g:=gb607) (o:=.cells #[.string a0_0,.slice (some ad612) l0_1.length c0_1] 25 (0,0)) (by (with_reducible repeat (first|apply bN|apply bD|apply bA));exact BK607.out) hb)
               have n2_:=am (blk_below (g:=gb608) (o:=.cells #[.int .i64 a1_0,.int .i64 a1_1] 31 (0,0)) (by (with_reducible repeat (first|apply bN|apply bD|apply bA));exact BK608.out) hb)
               have n3_:=am (blk_below (g:=gb611) (o:=.cells #[.string a0_0,u612001] 25 (0,0)) (by (with_reducible repeat (first|apply bN|apply bD|apply bA));exact BK611.out) hb)
               have n4_:=am (below_step (by repeat (first|(with_reducible first|exact HB.out|apply lA|apply lN|apply lD|refine lS ?_ GE607.out|refine lS ?_ GE608.out|refine lS ?_ GE611.out)|exact HB.out)) hb)
               have n5_:=am (hbox)
               have n6_:=am ((by rw [hg];exact (below_size (by repeat (first|(with_reducible first|exact HB.out|apply lA|apply lN|apply lD|refine lS ?_ GE607.out|refine lS ?_ GE608.out|refine lS ?_ GE611.out)|exact HB.out))) : w.heap.size ≤ gb613))
               have n7_:=am ((by rw [hg];exact (below_size (by repeat (first|(with_reducible first|exact HB.out|apply lA|apply lN|apply lD|refine lS ?_ GE607.out|refine lS ?_ GE608.out|refine lS ?_ GE611.out)|exact HB.out))) : w.heap.size ≤ gb613))
               have n8_:=am ((by rw [hg];exact Nat.ne_of_lt (blk_lt (g:=gb607) (o:=.cells #[.string a0_0,.slice (some ad612) l0_1.length c0_1] 25 (0,0)) (by (with_reducible repeat (first|apply bN|apply bD|apply bA));exact BK607.out)) : gb607 ≠ gb613))
               have n9_:=am ((by rw [hg];exact Nat.ne_of_gt (blk_lt (g:=gb607) (o:=.cells #[.string a0_0,.slice (some ad612) l0_1.length c0_1] 25 (0,0)) (by (with_reducible repeat (first|apply bN|apply bD|apply bA));exact BK607.out)) : gb613 ≠ gb607))
               have n10_:=am ((by rw [hg];exact Nat.ne_of_lt (blk_lt (g:=gb608) (o:=.cells #[.int .i64 a1_0,.int .i64 a1_1] 31 (0,0)) (by (with_reducible repeat (first|apply bN|apply bD|apply bA));exact BK608.out)) : gb608 ≠ gb613))
               have n11_:=am ((by rw [hg];exact Nat.ne_of_gt (blk_lt (g:=gb608) (o:=.cells #[.int .i64 a1_0,.int .i64 a1_1] 31 (0,0)) (by (with_reducible repeat (first|apply bN|apply bD|apply bA));exact BK608.out)) : gb613 ≠ gb608))
               have n12_:=am ((by rw [hg];exact Nat.ne_of_lt (blk_lt (g:=gb611) (o:=.cells #[.string a0_0,u612001] 25 (0,0)) (by (with_reducible repeat (first|apply bN|apply bD|apply bA));exact BK611.out)) : gb611 ≠ gb613))
               have n13_:=am ((by rw [hg];exact Nat.ne_of_gt (blk_lt (g:=gb611) (o:=.cells #[.string a0_0,u612001] 25 (0,0)) (by (with_reducible repeat (first|apply bN|apply bD|apply bA));exact BK611.out)) : gb613 ≠ gb611))
               clear HO_612001
               clear BK607
               clear BK608
               clear BK611
               clear HB
               have HO_612001:=n0_
               have BK607:=n1_
               have BK608:=n2_
               have BK611:=n3_
               have HB:=n4_
               have BK613:=n5_
               have GW613:=n6_
               have GE613:=n7_
               have NB607_613:=n8_
               have NB613_607:=n9_
               have NB608_613:=n10_
               have NB613_608:=n11_
               have NB611_613:=n12_
               have NB613_611:=n13_
               clear n0_ n1_ n2_ n3_ n4_ n5_ n6_ n7_ n8_ n9_ n10_ n11_ n12_ n13_
               clear hb hbox hg
               refine hK.out _ _ ⟨(blk_cell BK607.out 0).trans rfl,(blk_cell BK607.out 1).trans rfl,((HB.out.cell (World.block_lt_of_cell? w _ hw612_0)).trans hw612_0),((HB.out.cell (World.block_lt_of_cell? w _ hw612_1)).trans hw612_1)⟩ (fun hHeld=>?_)
               clear hK K
               refine norm_ (a':=?_) ?_ ?_
               rotate_left
               ·show Act.put _ (some 9) _ = _
                simp only [Act.put,sA,s0,sS,i64_w,i32_w]
                rfl
               refine one_ (i:=12) (N:=none) #[t_,t_,t_,t_,t_,t_,t_,t_,t_,t_,t_,t_,t_] rfl rfl (one_of HT_.out (by kernel_rfl)) (by decide) (fun K hK=>?_)
               have hs75 : w74.cell? ⟨gb613,0,none⟩ = some (.int .i64 0):=(blk_cell BK613.out 0).trans rfl
               have hfs75:=blk_frozen BK613.out 0
               have hns75_0:=NB607_613.out
               have hns75_1:=NB608_613.out
               have hns75_2:=NB611_613.out
               have hms75_0:=NB613_607.out
               have hms75_1:=NB613_608.out
               have hms75_2:=NB613_611.out
               have hs76 : w74.cell? ⟨gb613,1,none⟩ = some (.int .i64 0):=(blk_cell BK613.out 1).trans rfl
               have hfs76:=blk_frozen BK613.out 1
               have hns76_0:=NB607_613.out
               have hns76_1:=NB608_613.out
               have hns76_2:=NB611_613.out
               have hms76_0:=NB613_607.out
               have hms76_1:=NB613_608.out
               have hms76_2:=NB613_611.out
               refine skip_ (w1:=?_) (by rfl) rfl ?_ ?_
               rotate_left
               ·go_simp
                rfl
               refine hK.out _ _ ⟨((cell_far (p:=⟨gb613,_,none⟩) NB607_613.out _).trans (((cell_far (p:=⟨gb613,_,none⟩) NB607_613.out _).trans (hHeld.1)))),((cell_far (p:=⟨gb613,_,none⟩) NB607_613.out _).trans (((cell_far (p:=⟨gb613,_,none⟩) NB607_613.out _).trans (hHeld.2.1)))),((cell_far (p:=⟨gb613,_,none⟩) (by first|exact Nat.ne_of_lt (Nat.lt_of_lt_of_le (by have:=World.block_lt_of_cell? _ _ hw612_0;first|rwa [add_block] at this|exact this) GW613.out)|(rw [add_block];exact Nat.ne_of_lt (Nat.lt_of_lt_of_le (by have:=World.block_lt_of_cell? _ _ hw612_0;first|rwa [add_block] at this|exact this) GW613.out))|(show (Addr.add _ _).block ≠ _;rw [add_block];exact Nat.ne_of_lt (Nat.lt_of_lt_of_le (by have:=World.block_lt_of_cell? _ _ hw612_0;first|rwa [add_block] at this|exact this) GW613.out))|(dsimp only;exact Nat.ne_of_lt (Nat.lt_of_lt_of_le (by have:=World.block_lt_of_cell? _ _ hw612_0;first|rwa [add_block] at this|exact this) GW613.out))) _).trans (((cell_far (p:=⟨gb613,_,none⟩) (by first|exact Nat.ne_of_lt (Nat.lt_of_lt_of_le (by have:=World.block_lt_of_cell? _ _ hw612_0;first|rwa [add_block] at this|exact this) GW613.out)|(rw [add_block];exact Nat.ne_of_lt (Nat.lt_of_lt_of_le (by have:=World.block_lt_of_cell? _ _ hw612_0;first|rwa [add_block] at this|exact this) GW613.out))|(show (Addr.add _ _).block ≠ _;rw [add_block];exact Nat.ne_of_lt (Nat.lt_of_lt_of_le (by have:=World.block_lt_of_cell? _ _ hw612_0;first|rwa [add_block] at this|exact this) GW613.out))|(dsimp only;exact Nat.ne_of_lt (Nat.lt_of_lt_of_le (by have:=World.block_lt_of_cell? _ _ hw612_0;first|rwa [add_block] at this|exact this) GW613.out))) _).trans (hHeld.2.2.1)))),((cell_far (p:=⟨gb613,_,none⟩) (by first|exact Nat.ne_of_lt (Nat.lt_of_lt_of_le (by have:=World.block_lt_of_cell? _ _ hw612_1;first|rwa [add_block] at this|exact this) GW613.out)|(rw [add_block];exact Nat.ne_of_lt (Nat.lt_of_lt_of_le (by have:=World.block_lt_of_cell? _ _ hw612_1;first|rwa [add_block] at this|exact this) GW613.out))|(show (Addr.add _ _).block ≠ _;rw [add_block];exact Nat.ne_of_lt (Nat.lt_of_lt_of_le (by have:=World.block_lt_of_cell? _ _ hw612_1;first|rwa [add_block] at this|exact this) GW613.out))|(dsimp only;exact Nat.ne_of_lt (Nat.lt_of_lt_of_le (by have:=World.block_lt_of_cell? _ _ hw612_1;first|rwa [add_block] at this|exact this) GW613.out))) _).trans (((cell_far (p:=⟨gb613,_,none⟩) (by first|exact Nat.ne_of_lt (Nat.lt_of_lt_of_le (by have:=World.block_lt_of_cell? _ _ hw612_1;first|rwa [add_block] at this|exact this) GW613.out)|(rw [add_block];exact Nat.ne_of_lt (Nat.lt_of_lt_of_le (by have:=World.block_lt_of_cell? _ _ hw612_1;first|rwa [add_block] at this|exact this) GW613.out))|(show (Addr.add _ _).block ≠ _;rw [add_block];exact Nat.ne_of_lt (Nat.lt_of_lt_of_le (by have:=World.block_lt_of_cell? _ _ hw612_1;first|rwa [add_block] at this|exact this) GW613.out))|(dsimp only;exact Nat.ne_of_lt (Nat.lt_of_lt_of_le (by have:=World.block_lt_of_cell? _ _ hw612_1;first|rwa [add_block] at this|exact this) GW613.out))) _).trans (hHeld.2.2.2))))⟩ (fun hHeld=>?_)
               clear hK K
               refine done_ (done_of HT_.out (by kernel_rfl)) ?_
               have hnb77:=NB613_607.out
               have hnc77:=NB607_613.out
               have hnb78:=NB613_608.out
               have hnc78:=NB608_613.out
               have hnb79:=NB613_611.out
               have hnc79:=NB611_613.out
               have hcz80_0 : w74.cell? ⟨gb613,0,none⟩ = some (.int .i64 0):=(blk_cell BK613.out 0).trans rfl
               have hcz80_1 : w74.cell? ⟨gb613,1,none⟩ = some (.int .i64 0):=(blk_cell BK613.out 1).trans rfl
               have hfz80_0:=blk_frozen BK613.out 0
               have hfz80_1:=blk_frozen BK613.out 1
               try go_wp2
               go_ret
               exact ⟨by first|rfl|(simp [errW_none,errW_some] <;> rfl)|(simp only [← hji54];first|rfl|(simp [errW_none,errW_some] <;> rfl))|(simp [*,errW_none,errW_some] <;> rfl),by repeat (first|(with_reducible first|exact HB.out|apply lA|apply lN|apply lD|refine lS ?_ GE607.out|refine lS ?_ GE608.out|refine lS ?_ GE611.out|refine lS ?_ GE613.out)|exact HB.out)⟩
              ·rw [if_neg c69] at H
               have c69b0 : decide (1000000 < ((rd_T31 l0_1 (ji54)).f0)) = false:=decide_eq_false c69
               clear c69
               by_cases c81 : ((rd_T31 l0_1 (ji54)).f1) < (-1000000)
               ·rw [if_pos c81] at H
                have c81b0 : decide (((rd_T31 l0_1 (ji54)).f1) < (-1000000)) = true:=decide_eq_true c81
                clear c81
                obtain rfl:=Option.some.inj H
                have hnb82:=NB607_608.out
                have hnc82:=NB608_607.out
                have hnb83:=NB607_611.out
                have hnc83:=NB611_607.out
                have hcz84_0 : wr.cell? ⟨gb607,0,none⟩ = some (.string a0_0):=(blk_cell BK607.out 0).trans rfl
                have hcz84_1 : wr.cell? ⟨gb607,1,none⟩ = some (.slice A0_1 l0_1.length c0_1):=(blk_cell BK607.out 1).trans rfl
                have hfz84_0:=blk_frozen BK607.out 0
                have hfz84_1:=blk_frozen BK607.out 1
                try go_wp2
                have n0_:=am (Kd.R_drew HO_612001.out)
                have n1_:=am (blk_drew BK607.out)
                have n2_:=am (blk_drew BK608.out)
                have n3_:=am (blk_drew BK611.out)
                have n4_:=am (below_drew1 HB.out)
                clear HO_612001
                clear BK607
                clear BK608
                clear BK611
                clear HB
                have HO_612001:=n0_
                have BK607:=n1_
                have BK608:=n2_
                have BK611:=n3_
                have HB:=n4_
                clear n0_ n1_ n2_ n3_ n4_
                have p612 : 0 ≤ ((ji54) : Int):=of_decide_eq_true (by first|(with_reducible assumption)|assumption)
                have q612 : (ji54) < (l0_1.length : Int):=of_decide_eq_true (by first|(with_reducible assumption)|assumption)
                obtain ⟨ad612,e612,hx612_0,hx612_1⟩ := at_T31 HR0_1.out (ji54) p612 q612
                have hw612_1:=hx612_1
                have hw612_0:=hx612_0
                cases e612
                replace hx612_0:=(HB.out.cell (World.block_lt_of_cell? w _ hx612_0)).trans hx612_0
                replace hx612_1:=(HB.out.cell (World.block_lt_of_cell? w _ hx612_1)).trans hx612_1
                replace p612:=eq_true p612
                replace q612:=eq_true q612
                refine start_ (n:=13) (S:=fun w'=>w'.cell? ⟨gb607,0,none⟩ = some (.string a0_0) ∧ w'.cell? ⟨gb607,1,none⟩ = some (.slice (some ad612) l0_1.length c0_1) ∧ w'.cell? (ad612.add (((ji54)).toNat * 2)) = some (.int .i64 ((rd_T31 l0_1 (ji54)).f0)) ∧ w'.cell? ⟨(ad612.add (((ji54)).toNat * 2)).block,(ad612.add (((ji54)).toNat * 2)).off + 1,none⟩ = some (.int .i64 ((rd_T31 l0_1 (ji54)).f1))) (ds:=[]) #[f_,f_,f_,f_,f_,f_,f_,f_,f_,f_,f_,f_,f_] (by kernel_rfl) rfl rfl ⟨(blk_cell BK607.out 0).trans rfl,(blk_cell BK607.out 1).trans rfl,((HB.out.cell (World.block_lt_of_cell? w _ hw612_0)).trans hw612_0),((HB.out.cell (World.block_lt_of_cell? w _ hw612_1)).trans hw612_1)⟩ (fun hHeld=>?_);refine with_tabW gangsawlaw39_ProfileMoves.tab9 gangsawlaw39_ProfileMoves.bits9 (fun HT_ HW_=>?_)
                generalize wr.drew = w85 at HO_612001 BK607 BK608 BK611 HB hx612_0 hx612_1 hHeld ⊢
                refine pure_ (i:=0) (N:=some 67) (v:=?_) (a':=?_) #[t_,f_,f_,f_,f_,f_,f_,f_,f_,f_,f_,f_,f_] rfl rfl (any_of HT_.out (by kernel_rfl)) (fun _ _ _ h=>h) (Or.inl ⟨by rfl, ?_⟩) ?_ ?_
                rotate_left
                ·intro w'
                 go_simp
                 with_reducible rfl
                rotate_left
                ·simp only [Act.put,sA,s0,sS,i64_w,i32_w]
                 rfl
                refine pure_ (i:=2) (N:=some 69) (v:=?_) (a':=?_) #[t_,f_,t_,f_,f_,f_,f_,f_,f_,f_,f_,f_,f_] rfl rfl (any_of HT_.out (by kernel_rfl)) (fun _ _ _ h=>h) (Or.inl ⟨by rfl, ?_⟩) ?_ ?_
                rotate_left
                ·intro w'
                 go_simp
                 with_reducible rfl
                rotate_left
                ·simp only [Act.put,sA,s0,sS,i64_w,i32_w]
                 rfl
                refine pure_ (i:=3) (N:=some 70) (v:=?_) (a':=?_) #[t_,f_,t_,t_,f_,f_,f_,f_,f_,f_,f_,f_,f_] rfl rfl (any_of HT_.out (by kernel_rfl)) (fun _ _ _ h=>h) (Or.inl ⟨by rfl, ?_⟩) ?_ ?_
                rotate_left
                ·intro w'
                 go_simp
                 with_reducible rfl
                rotate_left
                ·simp only [Act.put,sA,s0,sS,i64_w,i32_w]
                 rfl
                refine pure_ (i:=4) (N:=some 71) (v:=?_) (a':=?_) #[t_,f_,t_,t_,t_,f_,f_,f_,f_,f_,f_,f_,f_] rfl rfl (any_of HT_.out (by kernel_rfl)) (fun _ _ _ h=>h) (Or.inl ⟨by rfl, ?_⟩) ?_ ?_
                rotate_left
                ·intro w'
                 go_simp
                 with_reducible rfl
                rotate_left
                ·simp only [Act.put,sA,s0,sS,i64_w,i32_w]
                 rfl
                refine pure_ (i:=5) (N:=some 72) (v:=?_) (a':=?_) #[t_,f_,t_,t_,t_,t_,f_,f_,f_,f_,f_,f_,f_] rfl rfl (any_of HT_.out (by kernel_rfl)) (fun _ _ _ h=>h) (Or.inl ⟨by rfl, ?_⟩) ?_ ?_
                rotate_left
                ·intro w'
                 go_simp
                 with_reducible rfl
                rotate_left
                ·simp only [Act.put,sA,s0,sS,i64_w,i32_w]
                 rfl
                refine take_ (i:=1) (N:=some 68) (v:=?_) (a':=?_) #[t_,t_,t_,t_,t_,t_,f_,f_,f_,f_,f_,f_,f_] rfl rfl (take_ofW HT_.out HW_.out (by kernel_rfl)) (fun _ _ _ h=>h) (Or.inl ⟨by rfl, ?_⟩) hHeld ?_ ?_
                rotate_left
                ·rintro w' ⟨s0,s1,s2,s3⟩
                 go_simp
                 with_reducible rfl
                rotate_left
                ·simp only [Act.put,sA,s0,sS,i64_w,i32_w]
                 rfl
                refine take_ (i:=6) (N:=some 73) (v:=?_) (a':=?_) #[t_,t_,t_,t_,t_,t_,t_,f_,f_,f_,f_,f_,f_] rfl rfl (take_ofW HT_.out HW_.out (by kernel_rfl)) (fun _ _ _ h=>h) (Or.inl ⟨by rfl, ?_⟩) hHeld ?_ ?_
                rotate_left
                ·rintro w' ⟨s0,s1,s2,s3⟩
                 go_simp
                 with_reducible rfl
                rotate_left
                ·simp only [Act.put,sA,s0,sS,i64_w,i32_w]
                 rfl
                refine pure_ (i:=7) (N:=some 74) (v:=?_) (a':=?_) #[t_,t_,t_,t_,t_,t_,t_,t_,f_,f_,f_,f_,f_] rfl rfl (any_of HT_.out (by kernel_rfl)) (fun _ _ _ h=>h) (Or.inl ⟨by rfl, ?_⟩) ?_ ?_
                rotate_left
                ·intro w'
                 go_simp
                 with_reducible rfl
                rotate_left
                ·simp only [Act.put,sA,s0,sS,i64_w,i32_w]
                 rfl
                refine pure_ (i:=8) (N:=some 75) (v:=?_) (a':=?_) #[t_,t_,t_,t_,t_,t_,t_,t_,t_,f_,f_,f_,f_] rfl rfl (any_of HT_.out (by kernel_rfl)) (fun _ _ _ h=>h) (Or.inl ⟨by rfl, ?_⟩) ?_ ?_
                rotate_left
                ·intro w'
                 go_simp
                 with_reducible rfl
                rotate_left
                ·simp only [Act.put,sA,s0,sS,i64_w,i32_w]
                 rfl
                refine pure_ (i:=9) (N:=some 76) (v:=?_) (a':=?_) #[t_,t_,t_,t_,t_,t_,t_,t_,t_,t_,f_,f_,f_] rfl rfl (any_of HT_.out (by kernel_rfl)) (fun _ _ _ h=>h) (Or.inl ⟨by rfl, ?_⟩) ?_ ?_
                rotate_left
                ·intro w'
                 go_simp
                 with_reducible rfl
                rotate_left
                ·simp only [Act.put,sA,s0,sS,i64_w,i32_w]
                 rfl
                refine take_ (i:=10) (N:=some 77) (v:=?_) (a':=?_) #[t_,t_,t_,t_,t_,t_,t_,t_,t_,t_,t_,f_,f_] rfl rfl (take_ofW HT_.out HW_.out (by kernel_rfl)) (fun _ _ _ h=>h) (Or.inl ⟨by rfl, ?_⟩) hHeld ?_ ?_
                rotate_left
                ·rintro w' ⟨s0,s1,s2,s3⟩
                 go_simp
                 with_reducible rfl
                rotate_left
                ·simp only [Act.put,sA,s0,sS,i64_w,i32_w]
                 rfl
                refine one_ (i:=11) (N:=some 9) #[t_,t_,t_,t_,t_,t_,t_,t_,t_,t_,t_,t_,f_] rfl rfl (one_of HT_.out (by kernel_rfl)) (by decide) (fun K hK=>?_)
                refine box_step ?hg (N:=9) ?hd (cs:=#[.int .i64 0,.int .i64 0]) (t:=31) ?hr ?_;(case hd=>rfl);(case hg=>rfl);(case hr=>first|(go_simp;done)|(go_simp;rfl))
                intro gb613 hg w86 hbox hb
                have n0_:=am (Kd.R_below (Kd.R_elderB (by (with_reducible repeat (first|apply rA|apply rN|apply rD));exact HO_612001.out) gb613 (Nat.le_of_eq hg.symm)) hb)
                have n1_:=am (blk_below (g:=gb607) (o:=.cells #[.string a0_0,.slice (some ad612) l0_1.length c0_1] 25 (0,0)) (by (with_reducible repeat (first|apply bN|apply bD|apply bA));exact BK607.out) hb)
                have n2_:=am (blk_below (g:=gb608) (o:=.cells #[.int .i64 a1_0,.int .i64 a1_1] 31 (0,0)) (by (with_reducible repeat (first|apply bN|apply bD|apply bA));exact BK608.out) hb)
                have n3_:=am (blk_below (g:=gb611) (o:=.cells #[.string a0_0,u612001] 25 (0,0)) (by (with_reducible repeat (first|apply bN|apply bD|apply bA));exact BK611.out) hb)
                have n4_:=am (below_step (by repeat (first|(with_reducible first|exact HB.out|apply lA|apply lN|apply lD|refine lS ?_ GE607.out|refine lS ?_ GE608.out|refine lS ?_ GE611.out)|exact HB.out)) hb)
                have n5_:=am (hbox)
                have n6_:=am ((by rw [hg];exact (below_size (by repeat (first|(with_reducible first|exact HB.out|apply lA|apply lN|apply lD|refine lS ?_ GE607.out|refine lS ?_ GE608.out|refine lS ?_ GE611.out)|exact HB.out))) : w.heap.size ≤ gb613))
                have n7_:=am ((by rw [hg];exact (below_size (by repeat (first|(with_reducible first|exact HB.out|apply lA|apply lN|apply lD|refine lS ?_ GE607.out|refine lS ?_ GE608.out|refine lS ?_ GE611.out)|exact HB.out))) : w.heap.size ≤ gb613))
                have n8_:=am ((by rw [hg];exact Nat.ne_of_lt (blk_lt (g:=gb607) (o:=.cells #[.string a0_0,.slice (some ad612) l0_1.length c0_1] 25 (0,0)) (by (with_reducible repeat (first|apply bN|apply bD|apply bA));exact BK607.out)) : gb607 ≠ gb613))
                have n9_:=am ((by rw [hg];exact Nat.ne_of_gt (blk_lt (g:=gb607) (o:=.cells #[.string a0_0,.slice (some ad612) l0_1.length c0_1] 25 (0,0)) (by (with_reducible repeat (first|apply bN|apply bD|apply bA));exact BK607.out)) : gb613 ≠ gb607))
                have n10_:=am ((by rw [hg];exact Nat.ne_of_lt (blk_lt (g:=gb608) (o:=.cells #[.int .i64 a1_0,.int .i64 a1_1] 31 (0,0)) (by (with_reducible repeat (first|apply bN|apply bD|apply bA));exact BK608.out)) : gb608 ≠ gb613))
                have n11_:=am ((by rw [hg];exact Nat.ne_of_gt (blk_lt (g:=gb608) (o:=.cells #[.int .i64 a1_0,.int .i64 a1_1] 31 (0,0)) (by (with_reducible repeat (first|apply bN|apply bD|apply bA));exact BK608.out)) : gb613 ≠ gb608))
                have n12_:=am ((by rw [hg];exact Nat.ne_of_lt (blk_lt (g:=gb611) (o:=.cells #[.string a0_0,u612001] 25 (0,0)) (by (with_reducible repeat (first|apply bN|apply bD|apply bA));exact BK611.out)) : gb611 ≠ gb613))
                have n13_:=am ((by rw [hg];exact Nat.ne_of_gt (blk_lt (g:=gb611) (o:=.cells #[.string a0_0,u612001] 25 (0,0)) (by (with_reducible repeat (first|apply bN|apply bD|apply bA));exact BK611.out)) : gb613 ≠ gb611))
                clear HO_612001
                clear BK607
                clear BK608
                clear BK611
                clear HB
                have HO_612001:=n0_
                have BK607:=n1_
                have BK608:=n2_
                have BK611:=n3_
                have HB:=n4_
                have BK613:=n5_
                have GW613:=n6_
                have GE613:=n7_
                have NB607_613:=n8_
                have NB613_607:=n9_
                have NB608_613:=n10_
                have NB613_608:=n11_
                have NB611_613:=n12_
                have NB613_611:=n13_
                clear n0_ n1_ n2_ n3_ n4_ n5_ n6_ n7_ n8_ n9_ n10_ n11_ n12_ n13_
                clear hb hbox hg
                refine hK.out _ _ ⟨(blk_cell BK607.out 0).trans rfl,(blk_cell BK607.out 1).trans rfl,((HB.out.cell (World.block_lt_of_cell? w _ hw612_0)).trans hw612_0),((HB.out.cell (World.block_lt_of_cell? w _ hw612_1)).trans hw612_1)⟩ (fun hHeld=>?_)
                clear hK K
                refine norm_ (a':=?_) ?_ ?_
                rotate_left
                ·show Act.put _ (some 9) _ = _
                 simp only [Act.put,sA,s0,sS,i64_w,i32_w]
                 rfl
                refine one_ (i:=12) (N:=none) #[t_,t_,t_,t_,t_,t_,t_,t_,t_,t_,t_,t_,t_] rfl rfl (one_of HT_.out (by kernel_rfl)) (by decide) (fun K hK=>?_)
                have hs87 : w86.cell? ⟨gb613,0,none⟩ = some (.int .i64 0):=(blk_cell BK613.out 0).trans rfl
                have hfs87:=blk_frozen BK613.out 0
                have hns87_0:=NB607_613.out
                have hns87_1:=NB608_613.out
                have hns87_2:=NB611_613.out
                have hms87_0:=NB613_607.out
                have hms87_1:=NB613_608.out
                have hms87_2:=NB613_611.out
                have hs88 : w86.cell? ⟨gb613,1,none⟩ = some (.int .i64 0):=(blk_cell BK613.out 1).trans rfl
                have hfs88:=blk_frozen BK613.out 1
                have hns88_0:=NB607_613.out
                have hns88_1:=NB608_613.out
                have hns88_2:=NB611_613.out
                have hms88_0:=NB613_607.out
                have hms88_1:=NB613_608.out
                have hms88_2:=NB613_611.out
                refine skip_ (w1:=?_) (by rfl) rfl ?_ ?_
                rotate_left
                ·go_simp
                 rfl
                refine hK.out _ _ ⟨((cell_far (p:=⟨gb613,_,none⟩) NB607_613.out _).trans (((cell_far (p:=⟨gb613,_,none⟩) NB607_613.out _).trans (hHeld.1)))),((cell_far (p:=⟨gb613,_,none⟩) NB607_613.out _).trans (((cell_far (p:=⟨gb613,_,none⟩) NB607_613.out _).trans (hHeld.2.1)))),((cell_far (p:=⟨gb613,_,none⟩) (by first|exact Nat.ne_of_lt (Nat.lt_of_lt_of_le (by have:=World.block_lt_of_cell? _ _ hw612_0;first|rwa [add_block] at this|exact this) GW613.out)|(rw [add_block];exact Nat.ne_of_lt (Nat.lt_of_lt_of_le (by have:=World.block_lt_of_cell? _ _ hw612_0;first|rwa [add_block] at this|exact this) GW613.out))|(show (Addr.add _ _).block ≠ _;rw [add_block];exact Nat.ne_of_lt (Nat.lt_of_lt_of_le (by have:=World.block_lt_of_cell? _ _ hw612_0;first|rwa [add_block] at this|exact this) GW613.out))|(dsimp only;exact Nat.ne_of_lt (Nat.lt_of_lt_of_le (by have:=World.block_lt_of_cell? _ _ hw612_0;first|rwa [add_block] at this|exact this) GW613.out))) _).trans (((cell_far (p:=⟨gb613,_,none⟩) (by first|exact Nat.ne_of_lt (Nat.lt_of_lt_of_le (by have:=World.block_lt_of_cell? _ _ hw612_0;first|rwa [add_block] at this|exact this) GW613.out)|(rw [add_block];exact Nat.ne_of_lt (Nat.lt_of_lt_of_le (by have:=World.block_lt_of_cell? _ _ hw612_0;first|rwa [add_block] at this|exact this) GW613.out))|(show (Addr.add _ _).block ≠ _;rw [add_block];exact Nat.ne_of_lt (Nat.lt_of_lt_of_le (by have:=World.block_lt_of_cell? _ _ hw612_0;first|rwa [add_block] at this|exact this) GW613.out))|(dsimp only;exact Nat.ne_of_lt (Nat.lt_of_lt_of_le (by have:=World.block_lt_of_cell? _ _ hw612_0;first|rwa [add_block] at this|exact this) GW613.out))) _).trans (hHeld.2.2.1)))),((cell_far (p:=⟨gb613,_,none⟩) (by first|exact Nat.ne_of_lt (Nat.lt_of_lt_of_le (by have:=World.block_lt_of_cell? _ _ hw612_1;first|rwa [add_block] at this|exact this) GW613.out)|(rw [add_block];exact Nat.ne_of_lt (Nat.lt_of_lt_of_le (by have:=World.block_lt_of_cell? _ _ hw612_1;first|rwa [add_block] at this|exact this) GW613.out))|(show (Addr.add _ _).block ≠ _;rw [add_block];exact Nat.ne_of_lt (Nat.lt_of_lt_of_le (by have:=World.block_lt_of_cell? _ _ hw612_1;first|rwa [add_block] at this|exact this) GW613.out))|(dsimp only;exact Nat.ne_of_lt (Nat.lt_of_lt_of_le (by have:=World.block_lt_of_cell? _ _ hw612_1;first|rwa [add_block] at this|exact this) GW613.out))) _).trans (((cell_far (p:=⟨gb613,_,none⟩) (by first|exact Nat.ne_of_lt (Nat.lt_of_lt_of_le (by have:=World.block_lt_of_cell? _ _ hw612_1;first|rwa [add_block] at this|exact this) GW613.out)|(rw [add_block];exact Nat.ne_of_lt (Nat.lt_of_lt_of_le (by have:=World.block_lt_of_cell? _ _ hw612_1;first|rwa [add_block] at this|exact this) GW613.out))|(show (Addr.add _ _).block ≠ _;rw [add_block];exact Nat.ne_of_lt (Nat.lt_of_lt_of_le (by have:=World.block_lt_of_cell? _ _ hw612_1;first|rwa [add_block] at this|exact this) GW613.out))|(dsimp only;exact Nat.ne_of_lt (Nat.lt_of_lt_of_le (by have:=World.block_lt_of_cell? _ _ hw612_1;first|rwa [add_block] at this|exact this) GW613.out))) _).trans (hHeld.2.2.2))))⟩ (fun hHeld=>?_)
                clear hK K
                refine done_ (done_of HT_.out (by kernel_rfl)) ?_
                have hnb89:=NB613_607.out
                have hnc89:=NB607_613.out
                have hnb90:=NB613_608.out
                have hnc90:=NB608_613.out
                have hnb91:=NB613_611.out
                have hnc91:=NB611_613.out
                have hcz92_0 : w86.cell? ⟨gb613,0,none⟩ = some (.int .i64 0):=(blk_cell BK613.out 0).trans rfl
                have hcz92_1 : w86.cell? ⟨gb613,1,none⟩ = some (.int .i64 0):=(blk_cell BK613.out 1).trans rfl
                have hfz92_0:=blk_frozen BK613.out 0
                have hfz92_1:=blk_frozen BK613.out 1
                try go_wp2
                go_ret
                exact ⟨by first|rfl|(simp [errW_none,errW_some] <;> rfl)|(simp only [← hji54];first|rfl|(simp [errW_none,errW_some] <;> rfl))|(simp [*,errW_none,errW_some] <;> rfl),by repeat (first|(with_reducible first|exact HB.out|apply lA|apply lN|apply lD|refine lS ?_ GE607.out|refine lS ?_ GE608.out|refine lS ?_ GE611.out|refine lS ?_ GE613.out)|exact HB.out)⟩
               ·rw [if_neg c81] at H
                have c81b0 : decide (((rd_T31 l0_1 (ji54)).f1) < (-1000000)) = false:=decide_eq_false c81
                clear c81
                by_cases c93 : ((rd_T31 l0_1 (ji54)).f1) > 1000000
                ·rw [if_pos c93] at H
                 have c93b0 : decide (1000000 < ((rd_T31 l0_1 (ji54)).f1)) = true:=decide_eq_true c93
                 clear c93
                 obtain rfl:=Option.some.inj H
                 have hnb94:=NB607_608.out
                 have hnc94:=NB608_607.out
                 have hnb95:=NB607_611.out
                 have hnc95:=NB611_607.out
                 have hcz96_0 : wr.cell? ⟨gb607,0,none⟩ = some (.string a0_0):=(blk_cell BK607.out 0).trans rfl
                 have hcz96_1 : wr.cell? ⟨gb607,1,none⟩ = some (.slice A0_1 l0_1.length c0_1):=(blk_cell BK607.out 1).trans rfl
                 have hfz96_0:=blk_frozen BK607.out 0
                 have hfz96_1:=blk_frozen BK607.out 1
                 try go_wp2
                 have n0_:=am (Kd.R_drew HO_612001.out)
                 have n1_:=am (blk_drew BK607.out)
                 have n2_:=am (blk_drew BK608.out)
                 have n3_:=am (blk_drew BK611.out)
                 have n4_:=am (below_drew1 HB.out)
                 clear HO_612001
                 clear BK607
                 clear BK608
                 clear BK611
                 clear HB
                 have HO_612001:=n0_
                 have BK607:=n1_
                 have BK608:=n2_
                 have BK611:=n3_
                 have HB:=n4_
                 clear n0_ n1_ n2_ n3_ n4_
                 have p612 : 0 ≤ ((ji54) : Int):=of_decide_eq_true (by first|(with_reducible assumption)|assumption)
                 have q612 : (ji54) < (l0_1.length : Int):=of_decide_eq_true (by first|(with_reducible assumption)|assumption)
                 obtain ⟨ad612,e612,hx612_0,hx612_1⟩ := at_T31 HR0_1.out (ji54) p612 q612
                 have hw612_1:=hx612_1
                 have hw612_0:=hx612_0
                 cases e612
                 replace hx612_0:=(HB.out.cell (World.block_lt_of_cell? w _ hx612_0)).trans hx612_0
                 replace hx612_1:=(HB.out.cell (World.block_lt_of_cell? w _ hx612_1)).trans hx612_1
                 replace p612:=eq_true p612
                 replace q612:=eq_true q612
                 refine start_ (n:=13) (S:=fun w'=>w'.cell? ⟨gb607,0,none⟩ = some (.string a0_0) ∧ w'.cell? ⟨gb607,1,none⟩ = some (.slice (some ad612) l0_1.length c0_1) ∧ w'.cell? (ad612.add (((ji54)).toNat * 2)) = some (.int .i64 ((rd_T31 l0_1 (ji54)).f0)) ∧ w'.cell? ⟨(ad612.add (((ji54)).toNat * 2)).block,(ad612.add (((ji54)).toNat * 2)).off + 1,none⟩ = some (.int .i64 ((rd_T31 l0_1 (ji54)).f1))) (ds:=[]) #[f_,f_,f_,f_,f_,f_,f_,f_,f_,f_,f_,f_,f_] (by kernel_rfl) rfl rfl ⟨(blk_cell BK607.out 0).trans rfl,(blk_cell BK607.out 1).trans rfl,((HB.out.cell (World.block_lt_of_cell? w _ hw612_0)).trans hw612_0),((HB.out.cell (World.block_lt_of_cell? w _ hw612_1)).trans hw612_1)⟩ (fun hHeld=>?_);refine with_tabW gangsawlaw39_ProfileMoves.tab9 gangsawlaw39_ProfileMoves.bits9 (fun HT_ HW_=>?_)
                 generalize wr.drew = w97 at HO_612001 BK607 BK608 BK611 HB hx612_0 hx612_1 hHeld ⊢
                 refine pure_ (i:=0) (N:=some 67) (v:=?_) (a':=?_) #[t_,f_,f_,f_,f_,f_,f_,f_,f_,f_,f_,f_,f_] rfl rfl (any_of HT_.out (by kernel_rfl)) (fun _ _ _ h=>h) (Or.inl ⟨by rfl, ?_⟩) ?_ ?_
                 rotate_left
                 ·intro w'
                  go_simp
                  with_reducible rfl
                 rotate_left
                 ·simp only [Act.put,sA,s0,sS,i64_w,i32_w]
                  rfl
                 refine pure_ (i:=2) (N:=some 69) (v:=?_) (a':=?_) #[t_,f_,t_,f_,f_,f_,f_,f_,f_,f_,f_,f_,f_] rfl rfl (any_of HT_.out (by kernel_rfl)) (fun _ _ _ h=>h) (Or.inl ⟨by rfl, ?_⟩) ?_ ?_
                 rotate_left
                 ·intro w'
                  go_simp
                  with_reducible rfl
                 rotate_left
                 ·simp only [Act.put,sA,s0,sS,i64_w,i32_w]
                  rfl
                 refine pure_ (i:=3) (N:=some 70) (v:=?_) (a':=?_) #[t_,f_,t_,t_,f_,f_,f_,f_,f_,f_,f_,f_,f_] rfl rfl (any_of HT_.out (by kernel_rfl)) (fun _ _ _ h=>h) (Or.inl ⟨by rfl, ?_⟩) ?_ ?_
                 rotate_left
                 ·intro w'
                  go_simp
                  with_reducible rfl
                 rotate_left
                 ·simp only [Act.put,sA,s0,sS,i64_w,i32_w]
                  rfl
                 refine pure_ (i:=4) (N:=some 71) (v:=?_) (a':=?_) #[t_,f_,t_,t_,t_,f_,f_,f_,f_,f_,f_,f_,f_] rfl rfl (any_of HT_.out (by kernel_rfl)) (fun _ _ _ h=>h) (Or.inl ⟨by rfl, ?_⟩) ?_ ?_
                 rotate_left
                 ·intro w'
                  go_simp
                  with_reducible rfl
                 rotate_left
                 ·simp only [Act.put,sA,s0,sS,i64_w,i32_w]
                  rfl
                 refine pure_ (i:=5) (N:=some 72) (v:=?_) (a':=?_) #[t_,f_,t_,t_,t_,t_,f_,f_,f_,f_,f_,f_,f_] rfl rfl (any_of HT_.out (by kernel_rfl)) (fun _ _ _ h=>h) (Or.inl ⟨by rfl, ?_⟩) ?_ ?_
                 rotate_left
                 ·intro w'
                  go_simp
                  with_reducible rfl
                 rotate_left
                 ·simp only [Act.put,sA,s0,sS,i64_w,i32_w]
                  rfl
                 refine take_ (i:=1) (N:=some 68) (v:=?_) (a':=?_) #[t_,t_,t_,t_,t_,t_,f_,f_,f_,f_,f_,f_,f_] rfl rfl (take_ofW HT_.out HW_.out (by kernel_rfl)) (fun _ _ _ h=>h) (Or.inl ⟨by rfl, ?_⟩) hHeld ?_ ?_
                 rotate_left
                 ·rintro w' ⟨s0,s1,s2,s3⟩
                  go_simp
                  with_reducible rfl
                 rotate_left
                 ·simp only [Act.put,sA,s0,sS,i64_w,i32_w]
                  rfl
                 refine take_ (i:=6) (N:=some 73) (v:=?_) (a':=?_) #[t_,t_,t_,t_,t_,t_,t_,f_,f_,f_,f_,f_,f_] rfl rfl (take_ofW HT_.out HW_.out (by kernel_rfl)) (fun _ _ _ h=>h) (Or.inl ⟨by rfl, ?_⟩) hHeld ?_ ?_
                 rotate_left
                 ·rintro w' ⟨s0,s1,s2,s3⟩
                  go_simp
                  with_reducible rfl
                 rotate_left
                 ·simp only [Act.put,sA,s0,sS,i64_w,i32_w]
                  rfl
                 refine pure_ (i:=7) (N:=some 74) (v:=?_) (a':=?_) #[t_,t_,t_,t_,t_,t_,t_,t_,f_,f_,f_,f_,f_] rfl rfl (any_of HT_.out (by kernel_rfl)) (fun _ _ _ h=>h) (Or.inl ⟨by rfl, ?_⟩) ?_ ?_
                 rotate_left
                 ·intro w'
                  go_simp
                  with_reducible rfl
                 rotate_left
                 ·simp only [Act.put,sA,s0,sS,i64_w,i32_w]
                  rfl
                 refine pure_ (i:=8) (N:=some 75) (v:=?_) (a':=?_) #[t_,t_,t_,t_,t_,t_,t_,t_,t_,f_,f_,f_,f_] rfl rfl (any_of HT_.out (by kernel_rfl)) (fun _ _ _ h=>h) (Or.inl ⟨by rfl, ?_⟩) ?_ ?_
                 rotate_left
                 ·intro w'
                  go_simp
                  with_reducible rfl
                 rotate_left
                 ·simp only [Act.put,sA,s0,sS,i64_w,i32_w]
                  rfl
                 refine pure_ (i:=9) (N:=some 76) (v:=?_) (a':=?_) #[t_,t_,t_,t_,t_,t_,t_,t_,t_,t_,f_,f_,f_] rfl rfl (any_of HT_.out (by kernel_rfl)) (fun _ _ _ h=>h) (Or.inl ⟨by rfl, ?_⟩) ?_ ?_
                 rotate_left
                 ·intro w'
                  go_simp
                  with_reducible rfl
                 rotate_left
                 ·simp only [Act.put,sA,s0,sS,i64_w,i32_w]
                  rfl
                 refine take_ (i:=10) (N:=some 77) (v:=?_) (a':=?_) #[t_,t_,t_,t_,t_,t_,t_,t_,t_,t_,t_,f_,f_] rfl rfl (take_ofW HT_.out HW_.out (by kernel_rfl)) (fun _ _ _ h=>h) (Or.inl ⟨by rfl, ?_⟩) hHeld ?_ ?_
                 rotate_left
                 ·rintro w' ⟨s0,s1,s2,s3⟩
                  go_simp
                  with_reducible rfl
                 rotate_left
                 ·simp only [Act.put,sA,s0,sS,i64_w,i32_w]
                  rfl
                 refine one_ (i:=11) (N:=some 9) #[t_,t_,t_,t_,t_,t_,t_,t_,t_,t_,t_,t_,f_] rfl rfl (one_of HT_.out (by kernel_rfl)) (by decide) (fun K hK=>?_)
                 refine box_step ?hg (N:=9) ?hd (cs:=#[.int .i64 0,.int .i64 0]) (t:=31) ?hr ?_;(case hd=>rfl);(case hg=>rfl);(case hr=>first|(go_simp;done)|(go_simp;rfl))
                 intro gb613 hg w98 hbox hb
                 have n0_:=am (Kd.R_below (Kd.R_elderB (by (with_reducible repeat (first|apply rA|apply rN|apply rD));exact HO_612001.out) gb613 (Nat.le_of_eq hg.symm)) hb)
                 have n1_:=am (blk_below (g:=gb607) (o:=.cells #[.string a0_0,.slice (some ad612) l0_1.length c0_1] 25 (0,0)) (by (with_reducible repeat (first|apply bN|apply bD|apply bA));exact BK607.out) hb)
                 have n2_:=am (blk_below (g:=gb608) (o:=.cells #[.int .i64 a1_0,.int .i64 a1_1] 31 (0,0)) (by (with_reducible repeat (first|apply bN|apply bD|apply bA));exact BK608.out) hb)
                 have n3_:=am (blk_below (g:=gb611) (o:=.cells #[.string a0_0,u612001] 25 (0,0)) (by (with_reducible repeat (first|apply bN|apply bD|apply bA));exact BK611.out) hb)
                 have n4_:=am (below_step (by repeat (first|(with_reducible first|exact HB.out|apply lA|apply lN|apply lD|refine lS ?_ GE607.out|refine lS ?_ GE608.out|refine lS ?_ GE611.out)|exact HB.out)) hb)
                 have n5_:=am (hbox)
                 have n6_:=am ((by rw [hg];exact (below_size (by repeat (first|(with_reducible first|exact HB.out|apply lA|apply lN|apply lD|refine lS ?_ GE607.out|refine lS ?_ GE608.out|refine lS ?_ GE611.out)|exact HB.out))) : w.heap.size ≤ gb613))
                 have n7_:=am ((by rw [hg];exact (below_size (by repeat (first|(with_reducible first|exact HB.out|apply lA|apply lN|apply lD|refine lS ?_ GE607.out|refine lS ?_ GE608.out|refine lS ?_ GE611.out)|exact HB.out))) : w.heap.size ≤ gb613))
                 have n8_:=am ((by rw [hg];exact Nat.ne_of_lt (blk_lt (g:=gb607) (o:=.cells #[.string a0_0,.slice (some ad612) l0_1.length c0_1] 25 (0,0)) (by (with_reducible repeat (first|apply bN|apply bD|apply bA));exact BK607.out)) : gb607 ≠ gb613))
                 have n9_:=am ((by rw [hg];exact Nat.ne_of_gt (blk_lt (g:=gb607) (o:=.cells #[.string a0_0,.slice (some ad612) l0_1.length c0_1] 25 (0,0)) (by (with_reducible repeat (first|apply bN|apply bD|apply bA));exact BK607.out)) : gb613 ≠ gb607))
                 have n10_:=am ((by rw [hg];exact Nat.ne_of_lt (blk_lt (g:=gb608) (o:=.cells #[.int .i64 a1_0,.int .i64 a1_1] 31 (0,0)) (by (with_reducible repeat (first|apply bN|apply bD|apply bA));exact BK608.out)) : gb608 ≠ gb613))
                 have n11_:=am ((by rw [hg];exact Nat.ne_of_gt (blk_lt (g:=gb608) (o:=.cells #[.int .i64 a1_0,.int .i64 a1_1] 31 (0,0)) (by (with_reducible repeat (first|apply bN|apply bD|apply bA));exact BK608.out)) : gb613 ≠ gb608))
                 have n12_:=am ((by rw [hg];exact Nat.ne_of_lt (blk_lt (g:=gb611) (o:=.cells #[.string a0_0,u612001] 25 (0,0)) (by (with_reducible repeat (first|apply bN|apply bD|apply bA));exact BK611.out)) : gb611 ≠ gb613))
                 have n13_:=am ((by rw [hg];exact Nat.ne_of_gt (blk_lt (g:=gb611) (o:=.cells #[.string a0_0,u612001] 25 (0,0)) (by (with_reducible repeat (first|apply bN|apply bD|apply bA));exact BK611.out)) : gb613 ≠ gb611))
                 clear HO_612001
                 clear BK607
                 clear BK608
                 clear BK611
                 clear HB
                 have HO_612001:=n0_
                 have BK607:=n1_
                 have BK608:=n2_
                 have BK611:=n3_
                 have HB:=n4_
                 have BK613:=n5_
                 have GW613:=n6_
                 have GE613:=n7_
                 have NB607_613:=n8_
                 have NB613_607:=n9_
                 have NB608_613:=n10_
                 have NB613_608:=n11_
                 have NB611_613:=n12_
                 have NB613_611:=n13_
                 clear n0_ n1_ n2_ n3_ n4_ n5_ n6_ n7_ n8_ n9_ n10_ n11_ n12_ n13_
                 clear hb hbox hg
                 refine hK.out _ _ ⟨(blk_cell BK607.out 0).trans rfl,(blk_cell BK607.out 1).trans rfl,((HB.out.cell (World.block_lt_of_cell? w _ hw612_0)).trans hw612_0),((HB.out.cell (World.block_lt_of_cell? w _ hw612_1)).trans hw612_1)⟩ (fun hHeld=>?_)
                 clear hK K
                 refine norm_ (a':=?_) ?_ ?_
                 rotate_left
                 ·show Act.put _ (some 9) _ = _
                  simp only [Act.put,sA,s0,sS,i64_w,i32_w]
                  rfl
                 refine one_ (i:=12) (N:=none) #[t_,t_,t_,t_,t_,t_,t_,t_,t_,t_,t_,t_,t_] rfl rfl (one_of HT_.out (by kernel_rfl)) (by decide) (fun K hK=>?_)
                 have hs99 : w98.cell? ⟨gb613,0,none⟩ = some (.int .i64 0):=(blk_cell BK613.out 0).trans rfl
                 have hfs99:=blk_frozen BK613.out 0
                 have hns99_0:=NB607_613.out
                 have hns99_1:=NB608_613.out
                 have hns99_2:=NB611_613.out
                 have hms99_0:=NB613_607.out
                 have hms99_1:=NB613_608.out
                 have hms99_2:=NB613_611.out
                 have hs100 : w98.cell? ⟨gb613,1,none⟩ = some (.int .i64 0):=(blk_cell BK613.out 1).trans rfl
                 have hfs100:=blk_frozen BK613.out 1
                 have hns100_0:=NB607_613.out
                 have hns100_1:=NB608_613.out
                 have hns100_2:=NB611_613.out
                 have hms100_0:=NB613_607.out
                 have hms100_1:=NB613_608.out
                 have hms100_2:=NB613_611.out
                 refine skip_ (w1:=?_) (by rfl) rfl ?_ ?_
                 rotate_left
                 ·go_simp
                  rfl
                 refine hK.out _ _ ⟨((cell_far (p:=⟨gb613,_,none⟩) NB607_613.out _).trans (((cell_far (p:=⟨gb613,_,none⟩) NB607_613.out _).trans (hHeld.1)))),((cell_far (p:=⟨gb613,_,none⟩) NB607_613.out _).trans (((cell_far (p:=⟨gb613,_,none⟩) NB607_613.out _).trans (hHeld.2.1)))),((cell_far (p:=⟨gb613,_,none⟩) (by first|exact Nat.ne_of_lt (Nat.lt_of_lt_of_le (by have:=World.block_lt_of_cell? _ _ hw612_0;first|rwa [add_block] at this|exact this) GW613.out)|(rw [add_block];exact Nat.ne_of_lt (Nat.lt_of_lt_of_le (by have:=World.block_lt_of_cell? _ _ hw612_0;first|rwa [add_block] at this|exact this) GW613.out))|(show (Addr.add _ _).block ≠ _;rw [add_block];exact Nat.ne_of_lt (Nat.lt_of_lt_of_le (by have:=World.block_lt_of_cell? _ _ hw612_0;first|rwa [add_block] at this|exact this) GW613.out))|(dsimp only;exact Nat.ne_of_lt (Nat.lt_of_lt_of_le (by have:=World.block_lt_of_cell? _ _ hw612_0;first|rwa [add_block] at this|exact this) GW613.out))) _).trans (((cell_far (p:=⟨gb613,_,none⟩) (by first|exact Nat.ne_of_lt (Nat.lt_of_lt_of_le (by have:=World.block_lt_of_cell? _ _ hw612_0;first|rwa [add_block] at this|exact this) GW613.out)|(rw [add_block];exact Nat.ne_of_lt (Nat.lt_of_lt_of_le (by have:=World.block_lt_of_cell? _ _ hw612_0;first|rwa [add_block] at this|exact this) GW613.out))|(show (Addr.add _ _).block ≠ _;rw [add_block];exact Nat.ne_of_lt (Nat.lt_of_lt_of_le (by have:=World.block_lt_of_cell? _ _ hw612_0;first|rwa [add_block] at this|exact this) GW613.out))|(dsimp only;exact Nat.ne_of_lt (Nat.lt_of_lt_of_le (by have:=World.block_lt_of_cell? _ _ hw612_0;first|rwa [add_block] at this|exact this) GW613.out))) _).trans (hHeld.2.2.1)))),((cell_far (p:=⟨gb613,_,none⟩) (by first|exact Nat.ne_of_lt (Nat.lt_of_lt_of_le (by have:=World.block_lt_of_cell? _ _ hw612_1;first|rwa [add_block] at this|exact this) GW613.out)|(rw [add_block];exact Nat.ne_of_lt (Nat.lt_of_lt_of_le (by have:=World.block_lt_of_cell? _ _ hw612_1;first|rwa [add_block] at this|exact this) GW613.out))|(show (Addr.add _ _).block ≠ _;rw [add_block];exact Nat.ne_of_lt (Nat.lt_of_lt_of_le (by have:=World.block_lt_of_cell? _ _ hw612_1;first|rwa [add_block] at this|exact this) GW613.out))|(dsimp only;exact Nat.ne_of_lt (Nat.lt_of_lt_of_le (by have:=World.block_lt_of_cell? _ _ hw612_1;first|rwa [add_block] at this|exact this) GW613.out))) _).trans (((cell_far (p:=⟨gb613,_,none⟩) (by first|exact Nat.ne_of_lt (Nat.lt_of_lt_of_le (by have:=World.block_lt_of_cell? _ _ hw612_1;first|rwa [add_block] at this|exact this) GW613.out)|(rw [add_block];exact Nat.ne_of_lt (Nat.lt_of_lt_of_le (by have:=World.block_lt_of_cell? _ _ hw612_1;first|rwa [add_block] at this|exact this) GW613.out))|(show (Addr.add _ _).block ≠ _;rw [add_block];exact Nat.ne_of_lt (Nat.lt_of_lt_of_le (by have:=World.block_lt_of_cell? _ _ hw612_1;first|rwa [add_block] at this|exact this) GW613.out))|(dsimp only;exact Nat.ne_of_lt (Nat.lt_of_lt_of_le (by have:=World.block_lt_of_cell? _ _ hw612_1;first|rwa [add_block] at this|exact this) GW613.out))) _).trans (hHeld.2.2.2))))⟩ (fun hHeld=>?_)
                 clear hK K
                 refine done_ (done_of HT_.out (by kernel_rfl)) ?_
                 have hnb101:=NB613_607.out
                 have hnc101:=NB607_613.out
                 have hnb102:=NB613_608.out
                 have hnc102:=NB608_613.out
                 have hnb103:=NB613_611.out
                 have hnc103:=NB611_613.out
                 have hcz104_0 : w98.cell? ⟨gb613,0,none⟩ = some (.int .i64 0):=(blk_cell BK613.out 0).trans rfl
                 have hcz104_1 : w98.cell? ⟨gb613,1,none⟩ = some (.int .i64 0):=(blk_cell BK613.out 1).trans rfl
                 have hfz104_0:=blk_frozen BK613.out 0
                 have hfz104_1:=blk_frozen BK613.out 1
                 try go_wp2
                 go_ret
                 exact ⟨by first|rfl|(simp [errW_none,errW_some] <;> rfl)|(simp only [← hji54];first|rfl|(simp [errW_none,errW_some] <;> rfl))|(simp [*,errW_none,errW_some] <;> rfl),by repeat (first|(with_reducible first|exact HB.out|apply lA|apply lN|apply lD|refine lS ?_ GE607.out|refine lS ?_ GE608.out|refine lS ?_ GE611.out|refine lS ?_ GE613.out)|exact HB.out)⟩
                ·rw [if_neg c93] at H
                 have c93b0 : decide (1000000 < ((rd_T31 l0_1 (ji54)).f1)) = false:=decide_eq_false c93
                 clear c93
                 by_cases c105 : x612001_2.length < 8796093022208
                 ·rw [if_pos c105] at H
                  have LMc105:=am c105
                  clear c105
                  obtain ⟨y614,hy614⟩ : ∃ y_ : List (S31),y_ = (x612001_2 ++ [(⟨wrap64 (((rd_T31 l0_1 (ji54)).f0) + a1_0),wrap64 (((rd_T31 l0_1 (ji54)).f1) + a1_1)⟩ : S31)]):=⟨_,rfl⟩
                  replace H : (gangsawlaw39_ProfileMoves.l0 k2 a2 (wrap64 (x8_2 + 1)) a0_0 l0_1 a1_0 a1_1 a0_0 y614) = some r:=by first|(rw [hy614];with_reducible exact H)|(have H2_:=(Option.bind_some _ _).symm.trans H;rw [hy614];with_reducible exact H2_)|(have H2_:=(Option.bind_some _ _).symm.trans H;with_reducible exact H2_)|with_reducible exact H|(rw [hy614];exact H)|exact H
                  have Ny614:=am hy614
                  clear hy614
                  have H':=am H
                  clear H
                  have hnb106:=NB607_608.out
                  have hnc106:=NB608_607.out
                  have hnb107:=NB607_611.out
                  have hnc107:=NB611_607.out
                  have hcz108_0 : wr.cell? ⟨gb607,0,none⟩ = some (.string a0_0):=(blk_cell BK607.out 0).trans rfl
                  have hcz108_1 : wr.cell? ⟨gb607,1,none⟩ = some (.slice A0_1 l0_1.length c0_1):=(blk_cell BK607.out 1).trans rfl
                  have hfz108_0:=blk_frozen BK607.out 0
                  have hfz108_1:=blk_frozen BK607.out 1
                  try go_wp2
                  have n0_:=am (Kd.R_drew HO_612001.out)
                  have n1_:=am (blk_drew BK607.out)
                  have n2_:=am (blk_drew BK608.out)
                  have n3_:=am (blk_drew BK611.out)
                  have n4_:=am (below_drew1 HB.out)
                  clear HO_612001
                  clear BK607
                  clear BK608
                  clear BK611
                  clear HB
                  have HO_612001:=n0_
                  have BK607:=n1_
                  have BK608:=n2_
                  have BK611:=n3_
                  have HB:=n4_
                  clear n0_ n1_ n2_ n3_ n4_
                  have p612 : 0 ≤ ((ji54) : Int):=of_decide_eq_true (by first|(with_reducible assumption)|assumption)
                  have q612 : (ji54) < (l0_1.length : Int):=of_decide_eq_true (by first|(with_reducible assumption)|assumption)
                  obtain ⟨ad612,e612,hx612_0,hx612_1⟩ := at_T31 HR0_1.out (ji54) p612 q612
                  have hw612_1:=hx612_1
                  have hw612_0:=hx612_0
                  cases e612
                  replace hx612_0:=(HB.out.cell (World.block_lt_of_cell? w _ hx612_0)).trans hx612_0
                  replace hx612_1:=(HB.out.cell (World.block_lt_of_cell? w _ hx612_1)).trans hx612_1
                  replace p612:=eq_true p612
                  replace q612:=eq_true q612
                  refine start_ (n:=13) (S:=fun w'=>w'.cell? ⟨gb607,0,none⟩ = some (.string a0_0) ∧ w'.cell? ⟨gb607,1,none⟩ = some (.slice (some ad612) l0_1.length c0_1) ∧ w'.cell? (ad612.add (((ji54)).toNat * 2)) = some (.int .i64 ((rd_T31 l0_1 (ji54)).f0)) ∧ w'.cell? ⟨(ad612.add (((ji54)).toNat * 2)).block,(ad612.add (((ji54)).toNat * 2)).off + 1,none⟩ = some (.int .i64 ((rd_T31 l0_1 (ji54)).f1))) (ds:=[]) #[f_,f_,f_,f_,f_,f_,f_,f_,f_,f_,f_,f_,f_] (by kernel_rfl) rfl rfl ⟨(blk_cell BK607.out 0).trans rfl,(blk_cell BK607.out 1).trans rfl,((HB.out.cell (World.block_lt_of_cell? w _ hw612_0)).trans hw612_0),((HB.out.cell (World.block_lt_of_cell? w _ hw612_1)).trans hw612_1)⟩ (fun hHeld=>?_);refine with_tabW gangsawlaw39_ProfileMoves.tab9 gangsawlaw39_ProfileMoves.bits9 (fun HT_ HW_=>?_)
                  generalize wr.drew = w109 at HO_612001 BK607 BK608 BK611 HB hx612_0 hx612_1 hHeld ⊢
                  refine pure_ (i:=0) (N:=some 67) (v:=?_) (a':=?_) #[t_,f_,f_,f_,f_,f_,f_,f_,f_,f_,f_,f_,f_] rfl rfl (any_of HT_.out (by kernel_rfl)) (fun _ _ _ h=>h) (Or.inl ⟨by rfl, ?_⟩) ?_ ?_
                  rotate_left
                  ·intro w'
                   go_simp
                   with_reducible rfl
                  rotate_left
                  ·simp only [Act.put,sA,s0,sS,i64_w,i32_w]
                   rfl
                  refine pure_ (i:=2) (N:=some 69) (v:=?_) (a':=?_) #[t_,f_,t_,f_,f_,f_,f_,f_,f_,f_,f_,f_,f_] rfl rfl (any_of HT_.out (by kernel_rfl)) (fun _ _ _ h=>h) (Or.inl ⟨by rfl, ?_⟩) ?_ ?_
                  rotate_left
                  ·intro w'
                   go_simp
                   with_reducible rfl
                  rotate_left
                  ·simp only [Act.put,sA,s0,sS,i64_w,i32_w]
                   rfl
                  refine pure_ (i:=3) (N:=some 70) (v:=?_) (a':=?_) #[t_,f_,t_,t_,f_,f_,f_,f_,f_,f_,f_,f_,f_] rfl rfl (any_of HT_.out (by kernel_rfl)) (fun _ _ _ h=>h) (Or.inl ⟨by rfl, ?_⟩) ?_ ?_
                  rotate_left
                  ·intro w'
                   go_simp
                   with_reducible rfl
                  rotate_left
                  ·simp only [Act.put,sA,s0,sS,i64_w,i32_w]
                   rfl
                  refine pure_ (i:=4) (N:=some 71) (v:=?_) (a':=?_) #[t_,f_,t_,t_,t_,f_,f_,f_,f_,f_,f_,f_,f_] rfl rfl (any_of HT_.out (by kernel_rfl)) (fun _ _ _ h=>h) (Or.inl ⟨by rfl, ?_⟩) ?_ ?_
                  rotate_left
                  ·intro w'
                   go_simp
                   with_reducible rfl
                  rotate_left
                  ·simp only [Act.put,sA,s0,sS,i64_w,i32_w]
                   rfl
                  refine pure_ (i:=5) (N:=some 72) (v:=?_) (a':=?_) #[t_,f_,t_,t_,t_,t_,f_,f_,f_,f_,f_,f_,f_] rfl rfl (any_of HT_.out (by kernel_rfl)) (fun _ _ _ h=>h) (Or.inl ⟨by rfl, ?_⟩) ?_ ?_
                  rotate_left
                  ·intro w'
                   go_simp
                   with_reducible rfl
                  rotate_left
                  ·simp only [Act.put,sA,s0,sS,i64_w,i32_w]
                   rfl
                  refine take_ (i:=1) (N:=some 68) (v:=?_) (a':=?_) #[t_,t_,t_,t_,t_,t_,f_,f_,f_,f_,f_,f_,f_] rfl rfl (take_ofW HT_.out HW_.out (by kernel_rfl)) (fun _ _ _ h=>h) (Or.inl ⟨by rfl, ?_⟩) hHeld ?_ ?_
                  rotate_left
                  ·rintro w' ⟨s0,s1,s2,s3⟩
                   go_simp
                   with_reducible rfl
                  rotate_left
                  ·simp only [Act.put,sA,s0,sS,i64_w,i32_w]
                   rfl
                  refine take_ (i:=6) (N:=some 73) (v:=?_) (a':=?_) #[t_,t_,t_,t_,t_,t_,t_,f_,f_,f_,f_,f_,f_] rfl rfl (take_ofW HT_.out HW_.out (by kernel_rfl)) (fun _ _ _ h=>h) (Or.inl ⟨by rfl, ?_⟩) hHeld ?_ ?_
                  rotate_left
                  ·rintro w' ⟨s0,s1,s2,s3⟩
                   go_simp
                   with_reducible rfl
                  rotate_left
                  ·simp only [Act.put,sA,s0,sS,i64_w,i32_w]
                   rfl
                  refine pure_ (i:=7) (N:=some 74) (v:=?_) (a':=?_) #[t_,t_,t_,t_,t_,t_,t_,t_,f_,f_,f_,f_,f_] rfl rfl (any_of HT_.out (by kernel_rfl)) (fun _ _ _ h=>h) (Or.inl ⟨by rfl, ?_⟩) ?_ ?_
                  rotate_left
                  ·intro w'
                   go_simp
                   with_reducible rfl
                  rotate_left
                  ·simp only [Act.put,sA,s0,sS,i64_w,i32_w]
                   rfl
                  refine pure_ (i:=8) (N:=some 75) (v:=?_) (a':=?_) #[t_,t_,t_,t_,t_,t_,t_,t_,t_,f_,f_,f_,f_] rfl rfl (any_of HT_.out (by kernel_rfl)) (fun _ _ _ h=>h) (Or.inl ⟨by rfl, ?_⟩) ?_ ?_
                  rotate_left
                  ·intro w'
                   go_simp
                   with_reducible rfl
                  rotate_left
                  ·simp only [Act.put,sA,s0,sS,i64_w,i32_w]
                   rfl
                  refine pure_ (i:=9) (N:=some 76) (v:=?_) (a':=?_) #[t_,t_,t_,t_,t_,t_,t_,t_,t_,t_,f_,f_,f_] rfl rfl (any_of HT_.out (by kernel_rfl)) (fun _ _ _ h=>h) (Or.inl ⟨by rfl, ?_⟩) ?_ ?_
                  rotate_left
                  ·intro w'
                   go_simp
                   with_reducible rfl
                  rotate_left
                  ·simp only [Act.put,sA,s0,sS,i64_w,i32_w]
                   rfl
                  refine take_ (i:=10) (N:=some 77) (v:=?_) (a':=?_) #[t_,t_,t_,t_,t_,t_,t_,t_,t_,t_,t_,f_,f_] rfl rfl (take_ofW HT_.out HW_.out (by kernel_rfl)) (fun _ _ _ h=>h) (Or.inl ⟨by rfl, ?_⟩) hHeld ?_ ?_
                  rotate_left
                  ·rintro w' ⟨s0,s1,s2,s3⟩
                   go_simp
                   with_reducible rfl
                  rotate_left
                  ·simp only [Act.put,sA,s0,sS,i64_w,i32_w]
                   rfl
                  refine one_ (i:=11) (N:=some 9) #[t_,t_,t_,t_,t_,t_,t_,t_,t_,t_,t_,t_,f_] rfl rfl (one_of HT_.out (by kernel_rfl)) (by decide) (fun K hK=>?_)
                  refine box_step ?hg (N:=9) ?hd (cs:=#[.int .i64 0,.int .i64 0]) (t:=31) ?hr ?_;(case hd=>rfl);(case hg=>rfl);(case hr=>first|(go_simp;done)|(go_simp;rfl))
                  intro gb613 hg w110 hbox hb
                  have n0_:=am (Kd.R_below (Kd.R_elderB (by (with_reducible repeat (first|apply rA|apply rN|apply rD));exact HO_612001.out) gb613 (Nat.le_of_eq hg.symm)) hb)
                  have n1_:=am (blk_below (g:=gb607) (o:=.cells #[.string a0_0,.slice (some ad612) l0_1.length c0_1] 25 (0,0)) (by (with_reducible repeat (first|apply bN|apply bD|apply bA));exact BK607.out) hb)
                  have n2_:=am (blk_below (g:=gb608) (o:=.cells #[.int .i64 a1_0,.int .i64 a1_1] 31 (0,0)) (by (with_reducible repeat (first|apply bN|apply bD|apply bA));exact BK608.out) hb)
                  have n3_:=am (blk_below (g:=gb611) (o:=.cells #[.string a0_0,u612001] 25 (0,0)) (by (with_reducible repeat (first|apply bN|apply bD|apply bA));exact BK611.out) hb)
                  have n4_:=am (below_step (by repeat (first|(with_reducible first|exact HB.out|apply lA|apply lN|apply lD|refine lS ?_ GE607.out|refine lS ?_ GE608.out|refine lS ?_ GE611.out)|exact HB.out)) hb)
                  have n5_:=am (hbox)
                  have n6_:=am ((by rw [hg];exact (below_size (by repeat (first|(with_reducible first|exact HB.out|apply lA|apply lN|apply lD|refine lS ?_ GE607.out|refine lS ?_ GE608.out|refine lS ?_ GE611.out)|exact HB.out))) : w.heap.size ≤ gb613))
                  have n7_:=am ((by rw [hg];exact (below_size (by repeat (first|(with_reducible first|exact HB.out|apply lA|apply lN|apply lD|refine lS ?_ GE607.out|refine lS ?_ GE608.out|refine lS ?_ GE611.out)|exact HB.out))) : w.heap.size ≤ gb613))
                  have n8_:=am ((by rw [hg];exact Nat.ne_of_lt (blk_lt (g:=gb607) (o:=.cells #[.string a0_0,.slice (some ad612) l0_1.length c0_1] 25 (0,0)) (by (with_reducible repeat (first|apply bN|apply bD|apply bA));exact BK607.out)) : gb607 ≠ gb613))
                  have n9_:=am ((by rw [hg];exact Nat.ne_of_gt (blk_lt (g:=gb607) (o:=.cells #[.string a0_0,.slice (some ad612) l0_1.length c0_1] 25 (0,0)) (by (with_reducible repeat (first|apply bN|apply bD|apply bA));exact BK607.out)) : gb613 ≠ gb607))
                  have n10_:=am ((by rw [hg];exact Nat.ne_of_lt (blk_lt (g:=gb608) (o:=.cells #[.int .i64 a1_0,.int .i64 a1_1] 31 (0,0)) (by (with_reducible repeat (first|apply bN|apply bD|apply bA));exact BK608.out)) : gb608 ≠ gb613))
                  have n11_:=am ((by rw [hg];exact Nat.ne_of_gt (blk_lt (g:=gb608) (o:=.cells #[.int .i64 a1_0,.int .i64 a1_1] 31 (0,0)) (by (with_reducible repeat (first|apply bN|apply bD|apply bA));exact BK608.out)) : gb613 ≠ gb608))
                  have n12_:=am ((by rw [hg];exact Nat.ne_of_lt (blk_lt (g:=gb611) (o:=.cells #[.string a0_0,u612001] 25 (0,0)) (by (with_reducible repeat (first|apply bN|apply bD|apply bA));exact BK611.out)) : gb611 ≠ gb613))
                  have n13_:=am ((by rw [hg];exact Nat.ne_of_gt (blk_lt (g:=gb611) (o:=.cells #[.string a0_0,u612001] 25 (0,0)) (by (with_reducible repeat (first|apply bN|apply bD|apply bA));exact BK611.out)) : gb613 ≠ gb611))
                  clear HO_612001
                  clear BK607
                  clear BK608
                  clear BK611
                  clear HB
                  have HO_612001:=n0_
                  have BK607:=n1_
                  have BK608:=n2_
                  have BK611:=n3_
                  have HB:=n4_
                  have BK613:=n5_
                  have GW613:=n6_
                  have GE613:=n7_
                  have NB607_613:=n8_
                  have NB613_607:=n9_
                  have NB608_613:=n10_
                  have NB613_608:=n11_
                  have NB611_613:=n12_
                  have NB613_611:=n13_
                  clear n0_ n1_ n2_ n3_ n4_ n5_ n6_ n7_ n8_ n9_ n10_ n11_ n12_ n13_
                  clear hb hbox hg
                  refine hK.out _ _ ⟨(blk_cell BK607.out 0).trans rfl,(blk_cell BK607.out 1).trans rfl,((HB.out.cell (World.block_lt_of_cell? w _ hw612_0)).trans hw612_0),((HB.out.cell (World.block_lt_of_cell? w _ hw612_1)).trans hw612_1)⟩ (fun hHeld=>?_)
                  clear hK K
                  refine norm_ (a':=?_) ?_ ?_
                  rotate_left
                  ·show Act.put _ (some 9) _ = _
                   simp only [Act.put,sA,s0,sS,i64_w,i32_w]
                   rfl
                  refine one_ (i:=12) (N:=none) #[t_,t_,t_,t_,t_,t_,t_,t_,t_,t_,t_,t_,t_] rfl rfl (one_of HT_.out (by kernel_rfl)) (by decide) (fun K hK=>?_)
                  have hs111 : w110.cell? ⟨gb613,0,none⟩ = some (.int .i64 0):=(blk_cell BK613.out 0).trans rfl
                  have hfs111:=blk_frozen BK613.out 0
                  have hns111_0:=NB607_613.out
                  have hns111_1:=NB608_613.out
                  have hns111_2:=NB611_613.out
                  have hms111_0:=NB613_607.out
                  have hms111_1:=NB613_608.out
                  have hms111_2:=NB613_611.out
                  have hs112 : w110.cell? ⟨gb613,1,none⟩ = some (.int .i64 0):=(blk_cell BK613.out 1).trans rfl
                  have hfs112:=blk_frozen BK613.out 1
                  have hns112_0:=NB607_613.out
                  have hns112_1:=NB608_613.out
                  have hns112_2:=NB611_613.out
                  have hms112_0:=NB613_607.out
                  have hms112_1:=NB613_608.out
                  have hms112_2:=NB613_611.out
                  refine skip_ (w1:=?_) (by rfl) rfl ?_ ?_
                  rotate_left
                  ·go_simp
                   rfl
                  refine hK.out _ _ ⟨((cell_far (p:=⟨gb613,_,none⟩) NB607_613.out _).trans (((cell_far (p:=⟨gb613,_,none⟩) NB607_613.out _).trans (hHeld.1)))),((cell_far (p:=⟨gb613,_,none⟩) NB607_613.out _).trans (((cell_far (p:=⟨gb613,_,none⟩) NB607_613.out _).trans (hHeld.2.1)))),((cell_far (p:=⟨gb613,_,none⟩) (by first|exact Nat.ne_of_lt (Nat.lt_of_lt_of_le (by have:=World.block_lt_of_cell? _ _ hw612_0;first|rwa [add_block] at this|exact this) GW613.out)|(rw [add_block];exact Nat.ne_of_lt (Nat.lt_of_lt_of_le (by have:=World.block_lt_of_cell? _ _ hw612_0;first|rwa [add_block] at this|exact this) GW613.out))|(show (Addr.add _ _).block ≠ _;rw [add_block];exact Nat.ne_of_lt (Nat.lt_of_lt_of_le (by have:=World.block_lt_of_cell? _ _ hw612_0;first|rwa [add_block] at this|exact this) GW613.out))|(dsimp only;exact Nat.ne_of_lt (Nat.lt_of_lt_of_le (by have:=World.block_lt_of_cell? _ _ hw612_0;first|rwa [add_block] at this|exact this) GW613.out))) _).trans (((cell_far (p:=⟨gb613,_,none⟩) (by first|exact Nat.ne_of_lt (Nat.lt_of_lt_of_le (by have:=World.block_lt_of_cell? _ _ hw612_0;first|rwa [add_block] at this|exact this) GW613.out)|(rw [add_block];exact Nat.ne_of_lt (Nat.lt_of_lt_of_le (by have:=World.block_lt_of_cell? _ _ hw612_0;first|rwa [add_block] at this|exact this) GW613.out))|(show (Addr.add _ _).block ≠ _;rw [add_block];exact Nat.ne_of_lt (Nat.lt_of_lt_of_le (by have:=World.block_lt_of_cell? _ _ hw612_0;first|rwa [add_block] at this|exact this) GW613.out))|(dsimp only;exact Nat.ne_of_lt (Nat.lt_of_lt_of_le (by have:=World.block_lt_of_cell? _ _ hw612_0;first|rwa [add_block] at this|exact this) GW613.out))) _).trans (hHeld.2.2.1)))),((cell_far (p:=⟨gb613,_,none⟩) (by first|exact Nat.ne_of_lt (Nat.lt_of_lt_of_le (by have:=World.block_lt_of_cell? _ _ hw612_1;first|rwa [add_block] at this|exact this) GW613.out)|(rw [add_block];exact Nat.ne_of_lt (Nat.lt_of_lt_of_le (by have:=World.block_lt_of_cell? _ _ hw612_1;first|rwa [add_block] at this|exact this) GW613.out))|(show (Addr.add _ _).block ≠ _;rw [add_block];exact Nat.ne_of_lt (Nat.lt_of_lt_of_le (by have:=World.block_lt_of_cell? _ _ hw612_1;first|rwa [add_block] at this|exact this) GW613.out))|(dsimp only;exact Nat.ne_of_lt (Nat.lt_of_lt_of_le (by have:=World.block_lt_of_cell? _ _ hw612_1;first|rwa [add_block] at this|exact this) GW613.out))) _).trans (((cell_far (p:=⟨gb613,_,none⟩) (by first|exact Nat.ne_of_lt (Nat.lt_of_lt_of_le (by have:=World.block_lt_of_cell? _ _ hw612_1;first|rwa [add_block] at this|exact this) GW613.out)|(rw [add_block];exact Nat.ne_of_lt (Nat.lt_of_lt_of_le (by have:=World.block_lt_of_cell? _ _ hw612_1;first|rwa [add_block] at this|exact this) GW613.out))|(show (Addr.add _ _).block ≠ _;rw [add_block];exact Nat.ne_of_lt (Nat.lt_of_lt_of_le (by have:=World.block_lt_of_cell? _ _ hw612_1;first|rwa [add_block] at this|exact this) GW613.out))|(dsimp only;exact Nat.ne_of_lt (Nat.lt_of_lt_of_le (by have:=World.block_lt_of_cell? _ _ hw612_1;first|rwa [add_block] at this|exact this) GW613.out))) _).trans (hHeld.2.2.2))))⟩ (fun hHeld=>?_)
                  clear hK K
                  refine done_ (done_of HT_.out (by kernel_rfl)) ?_
                  have hnb113:=NB613_607.out
                  have hnc113:=NB607_613.out
                  have hnb114:=NB613_608.out
                  have hnc114:=NB608_613.out
                  have hnb115:=NB613_611.out
                  have hnc115:=NB611_613.out
                  have hcz116_0 : w110.cell? ⟨gb613,0,none⟩ = some (.int .i64 0):=(blk_cell BK613.out 0).trans rfl
                  have hcz116_1 : w110.cell? ⟨gb613,1,none⟩ = some (.int .i64 0):=(blk_cell BK613.out 1).trans rfl
                  have hfz116_0:=blk_frozen BK613.out 0
                  have hfz116_1:=blk_frozen BK613.out 1
                  have hnb117:=NB611_608.out
                  have hnc117:=NB608_611.out
                  have hcz118_0 : w110.cell? ⟨gb611,0,none⟩ = some (.string a0_0):=(blk_cell BK611.out 0).trans rfl
                  have hcz118_1 : w110.cell? ⟨gb611,1,none⟩ = some (u612001):=(blk_cell BK611.out 1).trans rfl
                  have hfz118_0:=blk_frozen BK611.out 0
                  have hfz118_1:=blk_frozen BK611.out 1
                  have hcz119_0 : w110.cell? ⟨gb608,0,none⟩ = some (.int .i64 a1_0):=(blk_cell BK608.out 0).trans rfl
                  have hcz119_1 : w110.cell? ⟨gb608,1,none⟩ = some (.int .i64 a1_1):=(blk_cell BK608.out 1).trans rfl
                  have hfz119_0:=blk_frozen BK608.out 0
                  have hfz119_1:=blk_frozen BK608.out 1
                  try go_wp2_with (first|((with_reducible refine gate_builtin (b:=.append) (xs:=#[.tmp 97,.tmp 109]) rfl ?_);(try (refine gate_guard (by rfl) ?_;dsimp only));at_builtin;refine Kd.R_append k31 (w0:=w) w.heap.size rfl (.tmp 97) (.tmp 109) 23 31 (.agg #[(.int .i64 0),(.int .i64 0)]) 16 rfl Try.underlying23 info31 rfl (by decide) (by omega) u612001 x612001_2 (⟨wrap64 (((rd_T31 l0_1 (ji54)).f0) + a1_0),wrap64 (((rd_T31 l0_1 (ji54)).f1) + a1_1)⟩ : S31) [.int .i64 (wrap64 (((rd_T31 l0_1 (ji54)).f0) + a1_0)),.int .i64 (wrap64 (((rd_T31 l0_1 (ji54)).f1) + a1_1))] (fun k_=>k_ ≠ gb608 ∧ k_ ≠ gb613) (fun _=>False) rfl (by first|(go_simp;done)|(go_simp;rfl)) ?aP (fun _ hk=>hk.elim) ?aF ?aO ?aB ?aS ?aL ?_;(case aP=>exact k31_mkM _ _ _ (⟨wrap64 (((rd_T31 l0_1 (ji54)).f0) + a1_0),wrap64 (((rd_T31 l0_1 (ji54)).f1) + a1_1)⟩ : S31));(case aB=>exact (by repeat (first|(with_reducible first|exact HB.out|apply lA|apply lN|apply lD|refine lS ?_ GE607.out|refine lS ?_ GE608.out|refine lS ?_ GE611.out|refine lS ?_ GE613.out)|exact HB.out)));(case aF=>exact (fun k_ hk=>⟨Kd.freshB (g:=gb608) (o:=.cells #[.int .i64 a1_0,.int .i64 a1_1] 31 (0,0)) (by (with_reducible repeat (first|apply bN|apply bD|apply bA));refine blk_far ?_ NB608_613.out _;(with_reducible repeat (first|apply bN|apply bD|apply bA));refine blk_far ?_ NB608_613.out _;(with_reducible repeat (first|apply bN|apply bD|apply bA));exact BK608.out) k_ hk,Kd.freshB (g:=gb613) (o:=.cells #[.int .i64 ((rd_T31 l0_1 (ji54)).f0),.int .i64 ((rd_T31 l0_1 (ji54)).f1)] 31 (0,0)) (by (with_reducible repeat (first|apply bN|apply bD|apply bA));refine blk_put (cs:=#[.int .i64 ((rd_T31 l0_1 (ji54)).f0),.int .i64 0]) ?_ 1 _ rfl;(with_reducible repeat (first|apply bN|apply bD|apply bA));refine blk_put (cs:=#[.int .i64 0,.int .i64 0]) ?_ 0 _ rfl;(with_reducible repeat (first|apply bN|apply bD|apply bA));exact BK613.out) k_ hk⟩));(case aO=>exact (by (with_reducible repeat (first|apply rA|apply rN|apply rD));exact Kd.R_mono (Kd.R_far (p:=⟨gb613,1,none⟩) (Kd.R_far (p:=⟨gb613,0,none⟩) (Kd.R_mono HO_612001.out (fun k_ hk=>(⟨hk,hk.2⟩ : _ ∧ k_ ≠ gb613))) (fun _ hk=>hk.2) (.int .i64 ((rd_T31 l0_1 (ji54)).f0))) (fun _ hk=>hk.2) (.int .i64 ((rd_T31 l0_1 (ji54)).f1))) (fun _ hk=>⟨hk.1.1,hk.1.2⟩)));(case aS=>exact (below_size (by repeat (first|(with_reducible first|exact HB.out|apply lA|apply lN|apply lD|refine lS ?_ GE607.out|refine lS ?_ GE608.out|refine lS ?_ GE611.out|refine lS ?_ GE613.out)|exact HB.out))));(case aL=>have:=LMc105.out;omega);intro v615 w120 ho hb hg hat;rw [← Ny614.out] at ho;have n0_:=am (blk_grown (g:=gb607) (o:=.cells #[.string a0_0,.slice (some ad612) l0_1.length c0_1] 25 (0,0)) (by (with_reducible repeat (first|apply bN|apply bD|apply bA));refine blk_far ?_ NB607_613.out _;(with_reducible repeat (first|apply bN|apply bD|apply bA));refine blk_far ?_ NB607_613.out _;(with_reducible repeat (first|apply bN|apply bD|apply bA));exact BK607.out) hg (Kd.R_ne HO_612001.out BK607.out (by decide)));have n1_:=am (blk_grown (g:=gb608) (o:=.cells #[.int .i64 a1_0,.int .i64 a1_1] 31 (0,0)) (by (with_reducible repeat (first|apply bN|apply bD|apply bA));refine blk_far ?_ NB608_613.out _;(with_reducible repeat (first|apply bN|apply bD|apply bA));refine blk_far ?_ NB608_613.out _;(with_reducible repeat (first|apply bN|apply bD|apply bA));exact BK608.out) hg (Kd.R_away HO_612001.out (fun _ hk=>hk.1)));have n2_:=am (blk_grown (g:=gb611) (o:=.cells #[.string a0_0,u612001] 25 (0,0)) (by (with_reducible repeat (first|apply bN|apply bD|apply bA));refine blk_far ?_ NB611_613.out _;(with_reducible repeat (first|apply bN|apply bD|apply bA));refine blk_far ?_ NB611_613.out _;(with_reducible repeat (first|apply bN|apply bD|apply bA));exact BK611.out) hg (Kd.R_ne HO_612001.out BK611.out (by decide)));have n3_:=am (blk_grown (g:=gb613) (o:=.cells #[.int .i64 ((rd_T31 l0_1 (ji54)).f0),.int .i64 ((rd_T31 l0_1 (ji54)).f1)] 31 (0,0)) (by (with_reducible repeat (first|apply bN|apply bD|apply bA));refine blk_put (cs:=#[.int .i64 ((rd_T31 l0_1 (ji54)).f0),.int .i64 0]) ?_ 1 _ rfl;(with_reducible repeat (first|apply bN|apply bD|apply bA));refine blk_put (cs:=#[.int .i64 0,.int .i64 0]) ?_ 0 _ rfl;(with_reducible repeat (first|apply bN|apply bD|apply bA));exact BK613.out) hg (Kd.R_away HO_612001.out (fun _ hk=>hk.2)));have n4_:=am (hb);have n5_:=am (ho);clear BK607;clear BK608;clear BK611;clear BK613;clear HB;clear HO_612001;have BK607:=n0_;have BK608:=n1_;have BK611:=n2_;have BK613:=n3_;have HB:=n4_;have HO616:=n5_;clear n0_ n1_ n2_ n3_ n4_ n5_;clear ho hb hg hat;obtain ⟨Ao121,co121,eo121⟩ := Kd.R_slice HO616.out;subst eo121;have hcz122_0 : w120.cell? ⟨gb611,0,none⟩ = some (.string a0_0):=(blk_cell BK611.out 0).trans rfl;have hcz122_1 : w120.cell? ⟨gb611,1,none⟩ = some (u612001):=(blk_cell BK611.out 1).trans rfl;have hfz122_0:=blk_frozen BK611.out 0;have hfz122_1:=blk_frozen BK611.out 1))
                  go_roundg k2
                  case measure=>have:=HJ5.out;have:=HK2.out;omega
                  case rel=>exact ⟨(wrap64 (x8_2 + 1)),(y614),(.slice Ao121 y614.length co121),(by first|rfl|(simp;done)|(simp [*];done)),H',⟨by have:=HJ5.out;have:=HK2.out;omega⟩,⟨by (with_reducible repeat (first|apply rA|apply rN|apply rD));exact Kd.R_mono (Kd.R_far (p:=⟨gb611,1,none⟩) (Kd.R_types HO616.out BK611.out (by decide)) (fun _ hk=>hk.2) (.slice Ao121 y614.length co121)) (fun _ hk=>hk.1.1)⟩,⟨by (with_reducible repeat (first|apply bN|apply bD|apply bA));refine blk_far ?_ NB607_611.out _;(with_reducible repeat (first|apply bN|apply bD|apply bA));exact BK607.out⟩,⟨by (with_reducible repeat (first|apply bN|apply bD|apply bA));refine blk_far ?_ NB608_611.out _;(with_reducible repeat (first|apply bN|apply bD|apply bA));exact BK608.out⟩,⟨by (with_reducible repeat (first|apply bN|apply bD|apply bA));refine blk_put (cs:=#[.string a0_0,u612001]) ?_ 1 _ rfl;(with_reducible repeat (first|apply bN|apply bD|apply bA));exact BK611.out⟩,⟨by repeat (first|(with_reducible first|exact HB.out|apply lA|apply lN|apply lD|refine lS ?_ GE607.out|refine lS ?_ GE608.out|refine lS ?_ GE611.out|refine lS ?_ GE613.out)|exact HB.out)⟩⟩
                 ·rw [if_neg c105] at H
                  exact absurd H (by simp)
            ·rw [if_neg c56] at H
             exact absurd H (by simp)
           ·rw [if_neg c55] at H
            exact absurd H (by simp)
         ·rw [if_neg c52] at H
          have c52b0 : decide (x8_2 < (l0_1.length : Int)) = false:=decide_eq_false c52
          clear c52
          replace H:=Option.bind_eq_some_iff.mp H
          obtain ⟨t617,A1230,H⟩ := H
          replace H : (if t617 = 0 then ((profile_Equal.f k2 a0_0 l0_1 a0_0 x612001_2).bind fun bt618=>((profile_Area.f k2 a0_0 l0_1).bind fun bt620=>((profile_Area.f k2 a0_0 x612001_2).bind fun bt622=>((profile_Directions.f k2 a0_0 l0_1).bind fun bt624=>((profile_Directions.f k2 a0_0 x612001_2).bind fun bt628=>(if bt618.2 = 0 then (if bt618.1 = true then (if bt620.2 = 0 then (if bt622.2 = 0 then (if bt620.1 = bt622.1 then (if bt624.2 = 0 then (if bt628.2 = 0 then (gangsawlaw39_ProfileMoves.j2 k2 bt624.1 bt628.1 ((bt624.1.length : Int) != (bt628.1.length : Int))) else (gangsawlaw39_ProfileMoves.j2 k2 bt624.1 bt628.1 true)) else (gangsawlaw39_ProfileMoves.j2 k2 bt624.1 bt628.1 true)) else (gangsawlaw39_ProfileMoves.j2 k2 bt624.1 bt628.1 true)) else (gangsawlaw39_ProfileMoves.j2 k2 bt624.1 bt628.1 true)) else (gangsawlaw39_ProfileMoves.j2 k2 bt624.1 bt628.1 true)) else (gangsawlaw39_ProfileMoves.j2 k2 bt624.1 bt628.1 true)) else (gangsawlaw39_ProfileMoves.j2 k2 bt624.1 bt628.1 true))))))) else (some true)) = some r:=H
          have A123:=am A1230
          clear A1230
          by_cases c124 : t617 = 0
          ·rw [if_pos c124] at H
           have c124b0 : (t617 == 0) = true:=beq_iff_eq.mpr c124
           have c124b1 : (t617 != 0) = false:=bne_eq_false_iff_eq.mpr c124
           clear c124
           replace H:=Option.bind_eq_some_iff.mp H
           obtain ⟨⟨t618,t619⟩,A1250,H⟩ := H
           replace H : ((profile_Area.f k2 a0_0 l0_1).bind fun bt620=>((profile_Area.f k2 a0_0 x612001_2).bind fun bt622=>((profile_Directions.f k2 a0_0 l0_1).bind fun bt624=>((profile_Directions.f k2 a0_0 x612001_2).bind fun bt628=>(if t619 = 0 then (if t618 = true then (if bt620.2 = 0 then (if bt622.2 = 0 then (if bt620.1 = bt622.1 then (if bt624.2 = 0 then (if bt628.2 = 0 then (gangsawlaw39_ProfileMoves.j2 k2 bt624.1 bt628.1 ((bt624.1.length : Int) != (bt628.1.length : Int))) else (gangsawlaw39_ProfileMoves.j2 k2 bt624.1 bt628.1 true)) else (gangsawlaw39_ProfileMoves.j2 k2 bt624.1 bt628.1 true)) else (gangsawlaw39_ProfileMoves.j2 k2 bt624.1 bt628.1 true)) else (gangsawlaw39_ProfileMoves.j2 k2 bt624.1 bt628.1 true)) else (gangsawlaw39_ProfileMoves.j2 k2 bt624.1 bt628.1 true)) else (gangsawlaw39_ProfileMoves.j2 k2 bt624.1 bt628.1 true)) else (gangsawlaw39_ProfileMoves.j2 k2 bt624.1 bt628.1 true)))))) = some r:=H
           have A125:=am A1250
           clear A1250
           replace H:=Option.bind_eq_some_iff.mp H
           obtain ⟨⟨t620,t621⟩,A1260,H⟩ := H
           replace H : ((profile_Area.f k2 a0_0 x612001_2).bind fun bt622=>((profile_Directions.f k2 a0_0 l0_1).bind fun bt624=>((profile_Directions.f k2 a0_0 x612001_2).bind fun bt628=>(if t619 = 0 then (if t618 = true then (if t621 = 0 then (if bt622.2 = 0 then (if t620 = bt622.1 then (if bt624.2 = 0 then (if bt628.2 = 0 then (gangsawlaw39_ProfileMoves.j2 k2 bt624.1 bt628.1 ((bt624.1.length : Int) != (bt628.1.length : Int))) else (gangsawlaw39_ProfileMoves.j2 k2 bt624.1 bt628.1 true)) else (gangsawlaw39_ProfileMoves.j2 k2 bt624.1 bt628.1 true)) else (gangsawlaw39_ProfileMoves.j2 k2 bt624.1 bt628.1 true)) else (gangsawlaw39_ProfileMoves.j2 k2 bt624.1 bt628.1 true)) else (gangsawlaw39_ProfileMoves.j2 k2 bt624.1 bt628.1 true)) else (gangsawlaw39_ProfileMoves.j2 k2 bt624.1 bt628.1 true)) else (gangsawlaw39_ProfileMoves.j2 k2 bt624.1 bt628.1 true))))) = some r:=H
           have A126:=am A1260
           clear A1260
           replace H:=Option.bind_eq_some_iff.mp H
           obtain ⟨⟨t622,t623⟩,A1270,H⟩ := H
           replace H : ((profile_Directions.f k2 a0_0 l0_1).bind fun bt624=>((profile_Directions.f k2 a0_0 x612001_2).bind fun bt628=>(if t619 = 0 then (if t618 = true then (if t621 = 0 then (if t623 = 0 then (if t620 = t622 then (if bt624.2 = 0 then (if bt628.2 = 0 then (gangsawlaw39_ProfileMoves.j2 k2 bt624.1 bt628.1 ((bt624.1.length : Int) != (bt628.1.length : Int))) else (gangsawlaw39_ProfileMoves.j2 k2 bt624.1 bt628.1 true)) else (gangsawlaw39_ProfileMoves.j2 k2 bt624.1 bt628.1 true)) else (gangsawlaw39_ProfileMoves.j2 k2 bt624.1 bt628.1 true)) else (gangsawlaw39_ProfileMoves.j2 k2 bt624.1 bt628.1 true)) else (gangsawlaw39_ProfileMoves.j2 k2 bt624.1 bt628.1 true)) else (gangsawlaw39_ProfileMoves.j2 k2 bt624.1 bt628.1 true)) else (gangsawlaw39_ProfileMoves.j2 k2 bt624.1 bt628.1 true)))) = some r:=H
           have A127:=am A1270
           clear A1270
           replace H:=Option.bind_eq_some_iff.mp H
           obtain ⟨⟨t624,t627⟩,A1280,H⟩ := H
           replace H : ((profile_Directions.f k2 a0_0 x612001_2).bind fun bt628=>(if t619 = 0 then (if t618 = true then (if t621 = 0 then (if t623 = 0 then (if t620 = t622 then (if t627 = 0 then (if bt628.2 = 0 then (gangsawlaw39_ProfileMoves.j2 k2 t624 bt628.1 ((t624.length : Int) != (bt628.1.length : Int))) else (gangsawlaw39_ProfileMoves.j2 k2 t624 bt628.1 true)) else (gangsawlaw39_ProfileMoves.j2 k2 t624 bt628.1 true)) else (gangsawlaw39_ProfileMoves.j2 k2 t624 bt628.1 true)) else (gangsawlaw39_ProfileMoves.j2 k2 t624 bt628.1 true)) else (gangsawlaw39_ProfileMoves.j2 k2 t624 bt628.1 true)) else (gangsawlaw39_ProfileMoves.j2 k2 t624 bt628.1 true)) else (gangsawlaw39_ProfileMoves.j2 k2 t624 bt628.1 true))) = some r:=H
           have A128:=am A1280
           clear A1280
           replace H:=Option.bind_eq_some_iff.mp H
           obtain ⟨⟨t628,t631⟩,A1290,H⟩ := H
           replace H : (if t619 = 0 then (if t618 = true then (if t621 = 0 then (if t623 = 0 then (if t620 = t622 then (if t627 = 0 then (if t631 = 0 then (gangsawlaw39_ProfileMoves.j2 k2 t624 t628 ((t624.length : Int) != (t628.length : Int))) else (gangsawlaw39_ProfileMoves.j2 k2 t624 t628 true)) else (gangsawlaw39_ProfileMoves.j2 k2 t624 t628 true)) else (gangsawlaw39_ProfileMoves.j2 k2 t624 t628 true)) else (gangsawlaw39_ProfileMoves.j2 k2 t624 t628 true)) else (gangsawlaw39_ProfileMoves.j2 k2 t624 t628 true)) else (gangsawlaw39_ProfileMoves.j2 k2 t624 t628 true)) else (gangsawlaw39_ProfileMoves.j2 k2 t624 t628 true)) = some r:=H
           have A129:=am A1290
           clear A1290
           have HC130:=am H
           clear H
           have hnb131:=NB607_608.out
           have hnc131:=NB608_607.out
           have hnb132:=NB607_611.out
           have hnc132:=NB611_607.out
           have hcz133_0 : wr.cell? ⟨gb607,0,none⟩ = some (.string a0_0):=(blk_cell BK607.out 0).trans rfl
           have hcz133_1 : wr.cell? ⟨gb607,1,none⟩ = some (.slice A0_1 l0_1.length c0_1):=(blk_cell BK607.out 1).trans rfl
           have hfz133_0:=blk_frozen BK607.out 0
           have hfz133_1:=blk_frozen BK607.out 1
           have hnb134:=NB611_608.out
           have hnc134:=NB608_611.out
           have hcz135_0 : wr.cell? ⟨gb611,0,none⟩ = some (.string a0_0):=(blk_cell BK611.out 0).trans rfl
           have hcz135_1 : wr.cell? ⟨gb611,1,none⟩ = some (u612001):=(blk_cell BK611.out 1).trans rfl
           have hfz135_0:=blk_frozen BK611.out 0
           have hfz135_1:=blk_frozen BK611.out 1
           obtain ⟨Ao136,co136,eo136⟩ := Kd.R_slice HO_612001.out
           subst eo136
           go_upto_region 20 with (first|((with_reducible refine gate_callee (f:=17) rfl ?_);refine goesL_ (some 113) rfl rfl Try.func17 (by kernel_rfl) rfl #[.agg #[.string a0_0,.slice Ao136 x612001_2.length co136]] rfl (by (try simp only [mT,mC,mN]);first|done|rfl|(simp only [lDr,lTk];rfl)) ?_;(with_reducible refine (profile_Check.calls k2 a0_0 _ _ x612001_2 t617 _ ?side1 ?side2 A123.out).mono ?_);(case side1=>repeat (first|exact (Kd.R_reads' HO_612001.out).2.2|(with_reducible first|apply kA|apply kN|apply kD)));(case side2=>exact (Kd.R_reads' HO_612001.out).2.1);rintro e w137 ⟨rfl,hb⟩;refine ⟨_,rfl, ?_⟩;have n0_:=am (Kd.R_below (by (with_reducible repeat (first|apply rA|apply rN|apply rD));exact HO_612001.out) hb);have n1_:=am (blk_below (g:=gb607) (o:=.cells #[.string a0_0,.slice A0_1 l0_1.length c0_1] 25 (0,0)) (by (with_reducible repeat (first|apply bN|apply bD|apply bA));exact BK607.out) hb);have n2_:=am (blk_below (g:=gb608) (o:=.cells #[.int .i64 a1_0,.int .i64 a1_1] 31 (0,0)) (by (with_reducible repeat (first|apply bN|apply bD|apply bA));exact BK608.out) hb);have n3_:=am (blk_below (g:=gb611) (o:=.cells #[.string a0_0,.slice Ao136 x612001_2.length co136] 25 (0,0)) (by (with_reducible repeat (first|apply bN|apply bD|apply bA));exact BK611.out) hb);have n4_:=am (below_step (by repeat (first|(with_reducible first|exact HB.out|apply lA|apply lN|apply lD|refine lS ?_ GE607.out|refine lS ?_ GE608.out|refine lS ?_ GE611.out)|exact HB.out)) hb);clear HO_612001;clear BK607;clear BK608;clear BK611;clear HB;have HO_612001:=n0_;have BK607:=n1_;have BK608:=n2_;have BK611:=n3_;have HB:=n4_;clear n0_ n1_ n2_ n3_ n4_;(try clear hb);(try clear hb2);(try clear hk);(try clear hi);have hcz138_0 : w137.cell? ⟨gb607,0,none⟩ = some (.string a0_0):=(blk_cell BK607.out 0).trans rfl;have hcz138_1 : w137.cell? ⟨gb607,1,none⟩ = some (.slice A0_1 l0_1.length c0_1):=(blk_cell BK607.out 1).trans rfl;have hfz138_0:=blk_frozen BK607.out 0;have hfz138_1:=blk_frozen BK607.out 1;have hcz139_0 : w137.cell? ⟨gb611,0,none⟩ = some (.string a0_0):=(blk_cell BK611.out 0).trans rfl;have hcz139_1 : w137.cell? ⟨gb611,1,none⟩ = some (.slice Ao136 x612001_2.length co136):=(blk_cell BK611.out 1).trans rfl;have hfz139_0:=blk_frozen BK611.out 0;have hfz139_1:=blk_frozen BK611.out 1)|((with_reducible refine gate_callee (f:=22) rfl ?_);refine goesL_ (some 118) rfl rfl Try.func22 (by kernel_rfl) rfl #[.agg #[.string a0_0,.slice A0_1 l0_1.length c0_1],.agg #[.string a0_0,.slice Ao136 x612001_2.length co136]] rfl (by (try simp only [mT,mC,mN]);first|done|rfl|(simp only [lDr,lTk];rfl)) ?_;(with_reducible refine (profile_Equal.calls k2 a0_0 _ _ l0_1 a0_0 _ _ x612001_2 t618 t619 _ ?side1 ?side2 ?side3 ?side4 A125.out).mono ?_);(case side1=>repeat (first|exact (kB HR0_1.out HB.out)|(with_reducible first|apply kA|apply kN|apply kD)));(case side2=>exact HC0_1.out);(case side3=>repeat (first|exact (Kd.R_reads' HO_612001.out).2.2|(with_reducible first|apply kA|apply kN|apply kD)));(case side4=>exact (Kd.R_reads' HO_612001.out).2.1);rintro e w140 ⟨rfl,hb⟩;refine ⟨_,rfl, ?_⟩;have n0_:=am (Kd.R_below (by (with_reducible repeat (first|apply rA|apply rN|apply rD));exact HO_612001.out) hb);have n1_:=am (blk_below (g:=gb607) (o:=.cells #[.string a0_0,.slice A0_1 l0_1.length c0_1] 25 (0,0)) (by (with_reducible repeat (first|apply bN|apply bD|apply bA));exact BK607.out) hb);have n2_:=am (blk_below (g:=gb608) (o:=.cells #[.int .i64 a1_0,.int .i64 a1_1] 31 (0,0)) (by (with_reducible repeat (first|apply bN|apply bD|apply bA));exact BK608.out) hb);have n3_:=am (blk_below (g:=gb611) (o:=.cells #[.string a0_0,.slice Ao136 x612001_2.length co136] 25 (0,0)) (by (with_reducible repeat (first|apply bN|apply bD|apply bA));exact BK611.out) hb);have n4_:=am (below_step (by repeat (first|(with_reducible first|exact HB.out|apply lA|apply lN|apply lD|refine lS ?_ GE607.out|refine lS ?_ GE608.out|refine lS ?_ GE611.out)|exact HB.out)) hb);clear HO_612001;clear BK607;clear BK608;clear BK611;clear HB;have HO_612001:=n0_;have BK607:=n1_;have BK608:=n2_;have BK611:=n3_;have HB:=n4_;clear n0_ n1_ n2_ n3_ n4_;(try clear hb);(try clear hb2);(try clear hk);(try clear hi);have hcz141_0 : w140.cell? ⟨gb607,0,none⟩ = some (.string a0_0):=(blk_cell BK607.out 0).trans rfl;have hcz141_1 : w140.cell? ⟨gb607,1,none⟩ = some (.slice A0_1 l0_1.length c0_1):=(blk_cell BK607.out 1).trans rfl;have hfz141_0:=blk_frozen BK607.out 0;have hfz141_1:=blk_frozen BK607.out 1)|((with_reducible refine gate_callee (f:=15) rfl ?_);refine goesL_ (some 123) rfl rfl Try.func15 (by kernel_rfl) rfl #[.agg #[.string a0_0,.slice A0_1 l0_1.length c0_1]] rfl (by (try simp only [mT,mC,mN]);first|done|rfl|(simp only [lDr,lTk];rfl)) ?_;(with_reducible refine (profile_Area.calls k2 a0_0 _ _ l0_1 t620 t621 _ ?side1 ?side2 A126.out).mono ?_);(case side1=>repeat (first|exact (kB HR0_1.out HB.out)|(with_reducible first|apply kA|apply kN|apply kD)));(case side2=>exact HC0_1.out);rintro e w142 ⟨rfl,hb⟩;refine ⟨_,rfl, ?_⟩;have n0_:=am (Kd.R_below (by (with_reducible repeat (first|apply rA|apply rN|apply rD));exact HO_612001.out) hb);have n1_:=am (blk_below (g:=gb607) (o:=.cells #[.string a0_0,.slice A0_1 l0_1.length c0_1] 25 (0,0)) (by (with_reducible repeat (first|apply bN|apply bD|apply bA));exact BK607.out) hb);have n2_:=am (blk_below (g:=gb608) (o:=.cells #[.int .i64 a1_0,.int .i64 a1_1] 31 (0,0)) (by (with_reducible repeat (first|apply bN|apply bD|apply bA));exact BK608.out) hb);have n3_:=am (blk_below (g:=gb611) (o:=.cells #[.string a0_0,.slice Ao136 x612001_2.length co136] 25 (0,0)) (by (with_reducible repeat (first|apply bN|apply bD|apply bA));exact BK611.out) hb);have n4_:=am (below_step (by repeat (first|(with_reducible first|exact HB.out|apply lA|apply lN|apply lD|refine lS ?_ GE607.out|refine lS ?_ GE608.out|refine lS ?_ GE611.out)|exact HB.out)) hb);clear HO_612001;clear BK607;clear BK608;clear BK611;clear HB;have HO_612001:=n0_;have BK607:=n1_;have BK608:=n2_;have BK611:=n3_;have HB:=n4_;clear n0_ n1_ n2_ n3_ n4_;(try clear hb);(try clear hb2);(try clear hk);(try clear hi);have hcz143_0 : w142.cell? ⟨gb611,0,none⟩ = some (.string a0_0):=(blk_cell BK611.out 0).trans rfl;have hcz143_1 : w142.cell? ⟨gb611,1,none⟩ = some (.slice Ao136 x612001_2.length co136):=(blk_cell BK611.out 1).trans rfl;have hfz143_0:=blk_frozen BK611.out 0;have hfz143_1:=blk_frozen BK611.out 1)|((with_reducible refine gate_callee (f:=15) rfl ?_);refine goesL_ (some 128) rfl rfl Try.func15 (by kernel_rfl) rfl #[.agg #[.string a0_0,.slice Ao136 x612001_2.length co136]] rfl (by (try simp only [mT,mC,mN]);first|done|rfl|(simp only [lDr,lTk];rfl)) ?_;(with_reducible refine (profile_Area.calls k2 a0_0 _ _ x612001_2 t622 t623 _ ?side1 ?side2 A127.out).mono ?_);(case side1=>repeat (first|exact (Kd.R_reads' HO_612001.out).2.2|(with_reducible first|apply kA|apply kN|apply kD)));(case side2=>exact (Kd.R_reads' HO_612001.out).2.1);rintro e w144 ⟨rfl,hb⟩;refine ⟨_,rfl, ?_⟩;have n0_:=am (Kd.R_below (by (with_reducible repeat (first|apply rA|apply rN|apply rD));exact HO_612001.out) hb);have n1_:=am (blk_below (g:=gb607) (o:=.cells #[.string a0_0,.slice A0_1 l0_1.length c0_1] 25 (0,0)) (by (with_reducible repeat (first|apply bN|apply bD|apply bA));exact BK607.out) hb);have n2_:=am (blk_below (g:=gb608) (o:=.cells #[.int .i64 a1_0,.int .i64 a1_1] 31 (0,0)) (by (with_reducible repeat (first|apply bN|apply bD|apply bA));exact BK608.out) hb);have n3_:=am (blk_below (g:=gb611) (o:=.cells #[.string a0_0,.slice Ao136 x612001_2.length co136] 25 (0,0)) (by (with_reducible repeat (first|apply bN|apply bD|apply bA));exact BK611.out) hb);have n4_:=am (below_step (by repeat (first|(with_reducible first|exact HB.out|apply lA|apply lN|apply lD|refine lS ?_ GE607.out|refine lS ?_ GE608.out|refine lS ?_ GE611.out)|exact HB.out)) hb);clear HO_612001;clear BK607;clear BK608;clear BK611;clear HB;have HO_612001:=n0_;have BK607:=n1_;have BK608:=n2_;have BK611:=n3_;have HB:=n4_;clear n0_ n1_ n2_ n3_ n4_;(try clear hb);(try clear hb2);(try clear hk);(try clear hi);have hcz145_0 : w144.cell? ⟨gb607,0,none⟩ = some (.string a0_0):=(blk_cell BK607.out 0).trans rfl;have hcz145_1 : w144.cell? ⟨gb607,1,none⟩ = some (.slice A0_1 l0_1.length c0_1):=(blk_cell BK607.out 1).trans rfl;have hfz145_0:=blk_frozen BK607.out 0;have hfz145_1:=blk_frozen BK607.out 1)|((with_reducible refine gate_callee (f:=28) rfl ?_);refine goesL_ (some 133) rfl rfl Try.func28 (by kernel_rfl) rfl #[.agg #[.string a0_0,.slice A0_1 l0_1.length c0_1]] rfl (by (try simp only [mT,mC,mN]);first|done|rfl|(simp only [lDr,lTk];rfl)) ?_;(with_reducible refine (profile_Directions.calls k2 a0_0 _ _ l0_1 t624 t627 _ ?side1 ?side2 A128.out).mono ?_);(case side1=>repeat (first|exact (kB HR0_1.out HB.out)|(with_reducible first|apply kA|apply kN|apply kD)));(case side2=>exact HC0_1.out);rintro e w146 ⟨v625,rfl,ho0,hb⟩;refine ⟨_,rfl, ?_⟩;have n0_:=am (Kd.R_below (by (with_reducible repeat (first|apply rA|apply rN|apply rD));exact HO_612001.out) hb);have n1_:=am (Kd.R_lower ho0 (below_size (by repeat (first|(with_reducible first|exact HB.out|apply lA|apply lN|apply lD|refine lS ?_ GE607.out|refine lS ?_ GE608.out|refine lS ?_ GE611.out)|exact HB.out))));have n2_:=am (blk_below (g:=gb607) (o:=.cells #[.string a0_0,.slice A0_1 l0_1.length c0_1] 25 (0,0)) (by (with_reducible repeat (first|apply bN|apply bD|apply bA));exact BK607.out) hb);have n3_:=am (blk_below (g:=gb608) (o:=.cells #[.int .i64 a1_0,.int .i64 a1_1] 31 (0,0)) (by (with_reducible repeat (first|apply bN|apply bD|apply bA));exact BK608.out) hb);have n4_:=am (blk_below (g:=gb611) (o:=.cells #[.string a0_0,.slice Ao136 x612001_2.length co136] 25 (0,0)) (by (with_reducible repeat (first|apply bN|apply bD|apply bA));exact BK611.out) hb);have n5_:=am (below_step (by repeat (first|(with_reducible first|exact HB.out|apply lA|apply lN|apply lD|refine lS ?_ GE607.out|refine lS ?_ GE608.out|refine lS ?_ GE611.out)|exact HB.out)) hb);clear HO_612001;clear BK607;clear BK608;clear BK611;clear HB;have HO_612001:=n0_;have HO626:=n1_;have BK607:=n2_;have BK608:=n3_;have BK611:=n4_;have HB:=n5_;clear n0_ n1_ n2_ n3_ n4_ n5_;(try clear hb);(try clear hb2);(try clear hk);(try clear hi);(try clear ho0);have hcz147_0 : w146.cell? ⟨gb611,0,none⟩ = some (.string a0_0):=(blk_cell BK611.out 0).trans rfl;have hcz147_1 : w146.cell? ⟨gb611,1,none⟩ = some (.slice Ao136 x612001_2.length co136):=(blk_cell BK611.out 1).trans rfl;have hfz147_0:=blk_frozen BK611.out 0;have hfz147_1:=blk_frozen BK611.out 1)|((with_reducible refine gate_callee (f:=28) rfl ?_);refine goesL_ (some 138) rfl rfl Try.func28 (by kernel_rfl) rfl #[.agg #[.string a0_0,.slice Ao136 x612001_2.length co136]] rfl (by (try simp only [mT,mC,mN]);first|done|rfl|(simp only [lDr,lTk];rfl)) ?_;(with_reducible refine (profile_Directions.calls k2 a0_0 _ _ x612001_2 t628 t631 _ ?side1 ?side2 A129.out).mono ?_);(case side1=>repeat (first|exact (Kd.R_reads' HO_612001.out).2.2|(with_reducible first|apply kA|apply kN|apply kD)));(case side2=>exact (Kd.R_reads' HO_612001.out).2.1);rintro e w148 ⟨v629,rfl,ho0,hb⟩;refine ⟨_,rfl, ?_⟩;have n0_:=am (Kd.R_below (by (with_reducible repeat (first|apply rA|apply rN|apply rD));exact HO_612001.out) hb);have n1_:=am (Kd.R_elder' (by (with_reducible repeat (first|apply rA|apply rN|apply rD));exact HO626.out) (Kd.R_base ho0) hb);have n2_:=am (Kd.R_lower (Kd.R_new' ho0 (Kd.R_lt (by (with_reducible repeat (first|apply rA|apply rN|apply rD));exact HO626.out))) (below_size (by repeat (first|(with_reducible first|exact HB.out|apply lA|apply lN|apply lD|refine lS ?_ GE607.out|refine lS ?_ GE608.out|refine lS ?_ GE611.out)|exact HB.out))));have n3_:=am (blk_below (g:=gb607) (o:=.cells #[.string a0_0,.slice A0_1 l0_1.length c0_1] 25 (0,0)) (by (with_reducible repeat (first|apply bN|apply bD|apply bA));exact BK607.out) hb);have n4_:=am (blk_below (g:=gb608) (o:=.cells #[.int .i64 a1_0,.int .i64 a1_1] 31 (0,0)) (by (with_reducible repeat (first|apply bN|apply bD|apply bA));exact BK608.out) hb);have n5_:=am (blk_below (g:=gb611) (o:=.cells #[.string a0_0,.slice Ao136 x612001_2.length co136] 25 (0,0)) (by (with_reducible repeat (first|apply bN|apply bD|apply bA));exact BK611.out) hb);have n6_:=am (below_step (by repeat (first|(with_reducible first|exact HB.out|apply lA|apply lN|apply lD|refine lS ?_ GE607.out|refine lS ?_ GE608.out|refine lS ?_ GE611.out)|exact HB.out)) hb);clear HO_612001;clear HO626;clear BK607;clear BK608;clear BK611;clear HB;have HO_612001:=n0_;have HO626:=n1_;have HO630:=n2_;have BK607:=n3_;have BK608:=n4_;have BK611:=n5_;have HB:=n6_;clear n0_ n1_ n2_ n3_ n4_ n5_ n6_;(try clear hb);(try clear hb2);(try clear hk);(try clear hi);(try clear ho0)))
           (try simp only [Act.put,sA,s0,sS])
           go_cut [174] (fun v174 wc=>∃ (kq : Nat) (x174_129 : Bool),v174 = .bool x174_129 ∧ Aside0 (gangsawlaw39_ProfileMoves.j2 kq t624 t628 x174_129 = some r) ∧ Aside0 (kq ≤ k2) ∧ Aside0 (Kd.R (Kd.int .i64) 3 wc w.heap.size (fun k_=>some k_ ≠ (v629 : Value).ownBlock) v625 t624) ∧ Aside0 (Kd.R (Kd.int .i64) 3 wc w.heap.size (fun k_=>some k_ ≠ (v625 : Value).ownBlock) v629 t628) ∧ Aside0 (Kd.R k31 31 wc w.heap.size (fun k_=>k_ ≠ gb608) (.slice Ao136 x612001_2.length co136) x612001_2) ∧ Aside0 (wc.heap[gb607]? = some (.cells #[.string a0_0,(.slice A0_1 l0_1.length c0_1)] 25 (0,0))) ∧ Aside0 (wc.heap[gb608]? = some (.cells #[.int .i64 a1_0,.int .i64 a1_1] 31 (0,0))) ∧ Aside0 (wc.heap[gb611]? = some (.cells #[.string a0_0,(.slice Ao136 x612001_2.length co136)] 25 (0,0))) ∧ Aside0 (Below w.heap.size w wc))
           case first =>
            as_aux_lemma =>
             have H:=HC130.out
             clear HC130
             by_cases c149 : t619 = 0
             ·rw [if_pos c149] at H
              have c149b0 : (t619 == 0) = true:=beq_iff_eq.mpr c149
              have c149b1 : (t619 != 0) = false:=bne_eq_false_iff_eq.mpr c149
              clear c149
              (first|rw [c149b0]|(simp only [i64_w,i32_w];rw [c149b0])|skip)
              by_cases c150 : t618 = true
              ·subst c150
               have H1 : (if t621 = 0 then (if t623 = 0 then (if t620 = t622 then (if t627 = 0 then (if t631 = 0 then (gangsawlaw39_ProfileMoves.j2 k2 t624 t628 ((t624.length : Int) != (t628.length : Int))) else (gangsawlaw39_ProfileMoves.j2 k2 t624 t628 true)) else (gangsawlaw39_ProfileMoves.j2 k2 t624 t628 true)) else (gangsawlaw39_ProfileMoves.j2 k2 t624 t628 true)) else (gangsawlaw39_ProfileMoves.j2 k2 t624 t628 true)) else (gangsawlaw39_ProfileMoves.j2 k2 t624 t628 true)) = some r:=by rw [if_pos rfl] at H;exact H
               clear H
               have H:=H1
               clear H1
               by_cases c151 : t621 = 0
               ·rw [if_pos c151] at H
                have c151b0 : (t621 == 0) = true:=beq_iff_eq.mpr c151
                have c151b1 : (t621 != 0) = false:=bne_eq_false_iff_eq.mpr c151
                clear c151
                by_cases c152 : t623 = 0
                ·rw [if_pos c152] at H
                 have c152b0 : (t623 == 0) = true:=beq_iff_eq.mpr c152
                 have c152b1 : (t623 != 0) = false:=bne_eq_false_iff_eq.mpr c152
                 clear c152
                 by_cases c153 : t620 = t622
                 ·rw [if_pos c153] at H
                  have c153b0 : (t620 == t622) = true:=beq_iff_eq.mpr c153
                  have c153b1 : (t620 != t622) = false:=bne_eq_false_iff_eq.mpr c153
                  clear c153
                  by_cases c154 : t627 = 0
                  ·rw [if_pos c154] at H
                   have c154b0 : (t627 == 0) = true:=beq_iff_eq.mpr c154
                   have c154b1 : (t627 != 0) = false:=bne_eq_false_iff_eq.mpr c154
                   clear c154
                   by_cases c155 : t631 = 0
                   ·rw [if_pos c155] at H
                    have c155b0 : (t631 == 0) = true:=beq_iff_eq.mpr c155
                    have c155b1 : (t631 != 0) = false:=bne_eq_false_iff_eq.mpr c155
                    clear c155
                    have H':=am H
                    clear H
                    obtain ⟨Ao156,co156,eo156⟩ := Kd.R_slice HO626.out
                    subst eo156
                    obtain ⟨Ao157,co157,eo157⟩ := Kd.R_slice HO630.out
                    subst eo157
                    go_wp2
                    go_meet
                    case rel=>exact ⟨_,(((t624.length : Int) != (t628.length : Int))),(by first|rfl|(simp;done)|(simp [*];done)),H',⟨by have:=HJ5.out;have:=HK2.out;first|omega|exact Nat.le_refl _⟩,⟨by (with_reducible repeat (first|apply rA|apply rN|apply rD));exact Kd.R_mono HO626.out (fun _ hk=>hk.2)⟩,⟨by (with_reducible repeat (first|apply rA|apply rN|apply rD));exact Kd.R_mono HO630.out (fun _ hk=>hk.2)⟩,⟨by (with_reducible repeat (first|apply rA|apply rN|apply rD));exact HO_612001.out⟩,⟨by (with_reducible repeat (first|apply bN|apply bD|apply bA));exact BK607.out⟩,⟨by (with_reducible repeat (first|apply bN|apply bD|apply bA));exact BK608.out⟩,⟨by (with_reducible repeat (first|apply bN|apply bD|apply bA));exact BK611.out⟩,⟨by repeat (first|(with_reducible first|exact HB.out|apply lA|apply lN|apply lD|refine lS ?_ GE607.out|refine lS ?_ GE608.out|refine lS ?_ GE611.out)|exact HB.out)⟩⟩
                   ·rw [if_neg c155] at H
                    have c155b0 : (t631 == 0) = false:=beq_eq_false_iff_ne.mpr c155
                    have c155b1 : (t631 != 0) = true:=bne_iff_ne.mpr c155
                    exact absurd H (by cases k2 <;> simp [gangsawlaw39_ProfileMoves.j2])
                  ·rw [if_neg c154] at H
                   have c154b0 : (t627 == 0) = false:=beq_eq_false_iff_ne.mpr c154
                   have c154b1 : (t627 != 0) = true:=bne_iff_ne.mpr c154
                   exact absurd H (by cases k2 <;> simp [gangsawlaw39_ProfileMoves.j2])
                 ·rw [if_neg c153] at H
                  have c153b0 : (t620 == t622) = false:=beq_eq_false_iff_ne.mpr c153
                  have c153b1 : (t620 != t622) = true:=bne_iff_ne.mpr c153
                  exact absurd H (by cases k2 <;> simp [gangsawlaw39_ProfileMoves.j2])
                ·rw [if_neg c152] at H
                 have c152b0 : (t623 == 0) = false:=beq_eq_false_iff_ne.mpr c152
                 have c152b1 : (t623 != 0) = true:=bne_iff_ne.mpr c152
                 exact absurd H (by cases k2 <;> simp [gangsawlaw39_ProfileMoves.j2])
               ·rw [if_neg c151] at H
                have c151b0 : (t621 == 0) = false:=beq_eq_false_iff_ne.mpr c151
                have c151b1 : (t621 != 0) = true:=bne_iff_ne.mpr c151
                exact absurd H (by cases k2 <;> simp [gangsawlaw39_ProfileMoves.j2])
              ·replace c150:=Bool.eq_false_iff.mpr c150
               subst c150
               have H1 : (gangsawlaw39_ProfileMoves.j2 k2 t624 t628 true) = some r:=by rw [if_neg (show ¬ (false = true) by decide)] at H;exact H
               clear H
               have H:=H1
               clear H1
               exact absurd H (by cases k2 <;> simp [gangsawlaw39_ProfileMoves.j2])
             ·rw [if_neg c149] at H
              have c149b0 : (t619 == 0) = false:=beq_eq_false_iff_ne.mpr c149
              have c149b1 : (t619 != 0) = true:=bne_iff_ne.mpr c149
              (first|rw [c149b0]|(simp only [i64_w,i32_w];rw [c149b0])|skip)
              exact absurd H (by cases k2 <;> simp [gangsawlaw39_ProfileMoves.j2])
           case rest =>
            as_aux_lemma =>
             clear HC130
             try clear c1
             try clear c2
             try clear p2
             try clear c5
             try clear p6
             try clear q6
             try clear hx6
             try clear c9
             try clear c10
             try clear c11
             try clear c12
             try clear c13
             try clear c14
             try clear c15
             try clear c17
             try clear c22
             try clear c28
             try clear c52
             try clear c52b0
             try clear c55
             try clear c56
             try clear p61
             try clear q61
             try clear hx61
             try clear p64
             try clear c93
             try clear c93b0
             try clear c101
             try clear c102
             try clear c103
             try clear c105
             try clear c106
             try clear c107
             try clear c113
             try clear c114
             try clear c115
             try clear c117
             try clear c124
             try clear c124b0
             try clear c124b1
             try clear c131
             try clear c132
             try clear c134
             try clear c149
             try clear c149b0
             try clear c149b1
             try clear c150
             try clear c151
             try clear c151b0
             try clear c151b1
             try clear c152
             try clear c152b0
             try clear c152b1
             try clear c153
             try clear c153b0
             try clear c153b1
             try clear c154
             try clear c154b0
             try clear c154b1
             try clear c155
             try clear c155b0
             try clear c155b1
             try clear hcz104_0
             try clear hcz104_1
             try clear hcz108_0
             try clear hcz108_1
             try clear hcz116_0
             try clear hcz116_1
             try clear hcz118_0
             try clear hcz118_1
             try clear hcz119_0
             try clear hcz119_1
             try clear hcz122_0
             try clear hcz122_1
             try clear hcz133_0
             try clear hcz133_1
             try clear hcz135_0
             try clear hcz135_1
             try clear hcz138_0
             try clear hcz138_1
             try clear hcz139_0
             try clear hcz139_1
             try clear hcz141_0
             try clear hcz141_1
             try clear hcz143_0
             try clear hcz143_1
             try clear hcz145_0
             try clear hcz145_1
             try clear hcz147_0
             try clear hcz147_1
             try clear hfz104_0
             try clear hfz104_1
             try clear hfz108_0
             try clear hfz108_1
             try clear hfz116_0
             try clear hfz116_1
             try clear hfz118_0
             try clear hfz118_1
             try clear hfz119_0
             try clear hfz119_1
             try clear hfz122_0
             try clear hfz122_1
             try clear hfz133_0
             try clear hfz133_1
             try clear hfz135_0
             try clear hfz135_1
             try clear hfz138_0
             try clear hfz138_1
             try clear hfz139_0
             try clear hfz139_1
             try clear hfz141_0
             try clear hfz141_1
             try clear hfz143_0
             try clear hfz143_1
             try clear hfz145_0
             try clear hfz145_1
             try clear hfz147_0
             try clear hfz147_1
             try clear hx612_0
             try clear hx612_1
             try clear p612
             try clear q612
             obtain ⟨kq,x174_129,rfl,HA,HJ129,HO_16,HO_18,HO_612001,BK607,BK608,BK611,HB⟩ := hcut
             cases kq with
             | zero=>exact absurd HA.out (by simp [gangsawlaw39_ProfileMoves.j2])
             | succ kj129 =>
              have H:=HA.out
              clear HA
              simp only [gangsawlaw39_ProfileMoves.j2] at H
              by_cases c158 : x174_129 = true
              ·subst c158
               have H1 : (none) = some r:=by rw [if_pos rfl] at H;exact H
               clear H
               have H:=H1
               clear H1
               exact absurd H (by simp)
              ·replace c158:=Bool.eq_false_iff.mpr c158
               subst c158
               have H1 : (gangsawlaw39_ProfileMoves.l1 kj129 t624 t628 0) = some r:=by rw [if_neg (show ¬ (false = true) by decide)] at H;exact H
               clear H
               have H:=H1
               clear H1
               have H':=am H
               clear H
               go_wp2
               go_loopg [20] kj129 (fun kq v20 w'=>∃ (x20_4 : Int),v20 = .int .i64 x20_4 ∧ Aside0 (gangsawlaw39_ProfileMoves.l1 kq t624 t628 x20_4 = some r) ∧ Aside0 (kq ≤ kj129) ∧ Aside0 (Kd.R (Kd.int .i64) 3 w' w.heap.size (fun k_=>some k_ ≠ (v629 : Value).ownBlock) v625 t624) ∧ Aside0 (Kd.R (Kd.int .i64) 3 w' w.heap.size (fun k_=>some k_ ≠ (v625 : Value).ownBlock) v629 t628) ∧ Aside0 (Kd.R k31 31 w' w.heap.size (fun k_=>k_ ≠ gb608) (.slice Ao136 x612001_2.length co136) x612001_2) ∧ Aside0 (w'.heap[gb607]? = some (.cells #[.string a0_0,(.slice A0_1 l0_1.length c0_1)] 25 (0,0))) ∧ Aside0 (w'.heap[gb608]? = some (.cells #[.int .i64 a1_0,.int .i64 a1_1] 31 (0,0))) ∧ Aside0 (w'.heap[gb611]? = some (.cells #[.string a0_0,(.slice Ao136 x612001_2.length co136)] 25 (0,0))) ∧ Aside0 (Below w.heap.size w w'))
               case atStart=>exact ⟨(0),(by first|rfl|(simp;done)|(simp [*];done)),H',⟨Nat.le_refl _⟩,⟨by (with_reducible repeat (first|apply rA|apply rN|apply rD));exact HO_16.out⟩,⟨by (with_reducible repeat (first|apply rA|apply rN|apply rD));exact HO_18.out⟩,⟨by (with_reducible repeat (first|apply rA|apply rN|apply rD));exact HO_612001.out⟩,⟨by (with_reducible repeat (first|apply bN|apply bD|apply bA));exact BK607.out⟩,⟨by (with_reducible repeat (first|apply bN|apply bD|apply bA));exact BK608.out⟩,⟨by (with_reducible repeat (first|apply bN|apply bD|apply bA));exact BK611.out⟩,⟨by repeat (first|(with_reducible first|exact HB.out|apply lA|apply lN|apply lD|refine lS ?_ GE607.out|refine lS ?_ GE608.out|refine lS ?_ GE611.out)|exact HB.out)⟩⟩
               case round =>
                as_aux_lemma =>
                 clear H'
                 try clear c1
                 try clear c2
                 try clear p2
                 try clear c5
                 try clear p6
                 try clear q6
                 try clear hx6
                 try clear c9
                 try clear c10
                 try clear c11
                 try clear c12
                 try clear c13
                 try clear c14
                 try clear c15
                 try clear c17
                 try clear c22
                 try clear c28
                 try clear c52
                 try clear c52b0
                 try clear c55
                 try clear c56
                 try clear p61
                 try clear q61
                 try clear hx61
                 try clear p64
                 try clear c93
                 try clear c93b0
                 try clear c101
                 try clear c102
                 try clear c103
                 try clear c105
                 try clear c106
                 try clear c107
                 try clear c113
                 try clear c114
                 try clear c115
                 try clear c117
                 try clear c124
                 try clear c124b0
                 try clear c124b1
                 try clear c131
                 try clear c132
                 try clear c134
                 try clear c149
                 try clear c149b0
                 try clear c149b1
                 try clear c150
                 try clear c151
                 try clear c151b0
                 try clear c151b1
                 try clear c152
                 try clear c152b0
                 try clear c152b1
                 try clear c153
                 try clear c153b0
                 try clear c153b1
                 try clear c154
                 try clear c154b0
                 try clear c154b1
                 try clear c155
                 try clear c155b0
                 try clear c155b1
                 try clear c158
                 try clear hcz104_0
                 try clear hcz104_1
                 try clear hcz108_0
                 try clear hcz108_1
                 try clear hcz116_0
                 try clear hcz116_1
                 try clear hcz118_0
                 try clear hcz118_1
                 try clear hcz119_0
                 try clear hcz119_1
                 try clear hcz122_0
                 try clear hcz122_1
                 try clear hcz133_0
                 try clear hcz133_1
                 try clear hcz135_0
                 try clear hcz135_1
                 try clear hcz138_0
                 try clear hcz138_1
                 try clear hcz139_0
                 try clear hcz139_1
                 try clear hcz141_0
                 try clear hcz141_1
                 try clear hcz143_0
                 try clear hcz143_1
                 try clear hcz145_0
                 try clear hcz145_1
                 try clear hcz147_0
                 try clear hcz147_1
                 try clear hfz104_0
                 try clear hfz104_1
                 try clear hfz108_0
                 try clear hfz108_1
                 try clear hfz116_0
                 try clear hfz116_1
                 try clear hfz118_0
                 try clear hfz118_1
                 try clear hfz119_0
                 try clear hfz119_1
                 try clear hfz122_0
                 try clear hfz122_1
                 try clear hfz133_0
                 try clear hfz133_1
                 try clear hfz135_0
                 try clear hfz135_1
                 try clear hfz138_0
                 try clear hfz138_1
                 try clear hfz139_0
                 try clear hfz139_1
                 try clear hfz141_0
                 try clear hfz141_1
                 try clear hfz143_0
                 try clear hfz143_1
                 try clear hfz145_0
                 try clear hfz145_1
                 try clear hfz147_0
                 try clear hfz147_1
                 try clear hx612_0
                 try clear hx612_1
                 try clear p2
                 try clear p6
                 try clear p61
                 try clear p612
                 try clear p64
                 try clear q6
                 try clear q61
                 try clear q612
                 obtain ⟨x20_4,rfl,HA,HK4,HO_16,HO_18,HO_612001,BK607,BK608,BK611,HB⟩ := hrel
                 cases gk with
                 | zero=>exact absurd HA.out (by simp [gangsawlaw39_ProfileMoves.l1])
                 | succ k4 =>
                  have H:=HA.out
                  clear HA
                  simp only [gangsawlaw39_ProfileMoves.l1] at H
                  by_cases c159 : x20_4 < (t624.length : Int)
                  ·rw [if_pos c159] at H
                   have c159b0 : decide (x20_4 < (t624.length : Int)) = true:=decide_eq_true c159
                   clear c159
                   by_cases c160 : 0 ≤ x20_4
                   ·rw [if_pos c160] at H
                    have c160b0 : decide (0 ≤ x20_4) = true:=decide_eq_true c160
                    clear c160
                    by_cases c161 : x20_4 < (t628.length : Int)
                    ·rw [if_pos c161] at H
                     have c161b0 : decide (x20_4 < (t628.length : Int)) = true:=decide_eq_true c161
                     clear c161
                     by_cases c162 : (rd t624 x20_4) = (rd t628 x20_4)
                     ·rw [if_pos c162] at H
                      have c162b0 : ((rd t624 x20_4) == (rd t628 x20_4)) = true:=beq_iff_eq.mpr c162
                      have c162b1 : ((rd t624 x20_4) != (rd t628 x20_4)) = false:=bne_eq_false_iff_eq.mpr c162
                      clear c162
                      have H':=am H
                      clear H
                      obtain ⟨Ao163,co163,eo163⟩ := Kd.R_slice HO_16.out
                      subst eo163
                      try go_wp2
                      have n0_:=am (Kd.R_drew HO_16.out)
                      have n1_:=am (Kd.R_drew HO_18.out)
                      have n2_:=am (Kd.R_drew HO_612001.out)
                      have n3_:=am (blk_drew BK607.out)
                      have n4_:=am (blk_drew BK608.out)
                      have n5_:=am (blk_drew BK611.out)
                      have n6_:=am (below_drew1 HB.out)
                      clear HO_16
                      clear HO_18
                      clear HO_612001
                      clear BK607
                      clear BK608
                      clear BK611
                      clear HB
                      have HO_16:=n0_
                      have HO_18:=n1_
                      have HO_612001:=n2_
                      have BK607:=n3_
                      have BK608:=n4_
                      have BK611:=n5_
                      have HB:=n6_
                      clear n0_ n1_ n2_ n3_ n4_ n5_ n6_
                      have p632 : 0 ≤ (x20_4 : Int):=of_decide_eq_true (by first|(with_reducible assumption)|assumption)
                      have q632 : x20_4 < (t624.length : Int):=of_decide_eq_true (by first|(with_reducible assumption)|assumption)
                      obtain ⟨ad632,e632,hx632_0⟩ := Kd.at_int (Kd.R_reads' HO_16.out).2.2 x20_4 p632 q632
                      cases e632
                      replace p632:=eq_true p632
                      replace q632:=eq_true q632
                      obtain ⟨Ao165,co165,eo165⟩ := Kd.R_slice HO_18.out
                      (first|subst eo165|(injection eo165 with f1_ f2_ f3_;have f4_:=f1_.symm;have f5_:=f3_.symm;clear f1_ f2_ f3_;subst f4_;subst f5_))
                      have p633 : 0 ≤ (x20_4 : Int):=of_decide_eq_true (by first|(with_reducible assumption)|assumption)
                      have q633 : x20_4 < (t628.length : Int):=of_decide_eq_true (by first|(with_reducible assumption)|assumption)
                      obtain ⟨ad633,e633,hx633_0⟩ := Kd.at_int (Kd.R_reads' HO_18.out).2.2 x20_4 p633 q633
                      cases e633
                      replace p633:=eq_true p633
                      replace q633:=eq_true q633
                      refine start_ (n:=9) (S:=fun w'=>w'.cell? (ad632.add (x20_4).toNat) = some (.int .i64 (rd t624 x20_4)) ∧ w'.cell? (ad633.add (x20_4).toNat) = some (.int .i64 (rd t628 x20_4))) (ds:=[]) #[f_,f_,f_,f_,f_,f_,f_,f_,f_] (by kernel_rfl) rfl rfl ⟨hx632_0,hx633_0⟩ (fun hHeld=>?_);refine with_tabW gangsawlaw39_ProfileMoves.tab25 gangsawlaw39_ProfileMoves.bits25 (fun HT_ HW_=>?_)
                      generalize wr.drew = w164 at HO_16 HO_18 HO_612001 BK607 BK608 BK611 HB hx632_0 hx633_0 hHeld ⊢
                      refine pure_ (i:=0) (N:=some 181) (v:=?_) (a':=?_) #[t_,f_,f_,f_,f_,f_,f_,f_,f_] rfl rfl (any_of HT_.out (by kernel_rfl)) (fun _ _ _ h=>h) (Or.inl ⟨by rfl, ?_⟩) ?_ ?_
                      rotate_left
                      ·intro w'
                       go_simp
                       with_reducible rfl
                      rotate_left
                      ·simp only [Act.put,sA,s0,sS,i64_w,i32_w]
                       rfl
                      refine pure_ (i:=1) (N:=some 182) (v:=?_) (a':=?_) #[t_,t_,f_,f_,f_,f_,f_,f_,f_] rfl rfl (any_of HT_.out (by kernel_rfl)) (fun _ _ _ h=>h) (Or.inl ⟨by rfl, ?_⟩) ?_ ?_
                      rotate_left
                      ·intro w'
                       go_simp
                       with_reducible rfl
                      rotate_left
                      ·simp only [Act.put,sA,s0,sS,i64_w,i32_w]
                       rfl
                      refine pure_ (i:=2) (N:=some 183) (v:=?_) (a':=?_) #[t_,t_,t_,f_,f_,f_,f_,f_,f_] rfl rfl (any_of HT_.out (by kernel_rfl)) (fun _ _ _ h=>h) (Or.inl ⟨by rfl, ?_⟩) ?_ ?_
                      rotate_left
                      ·intro w'
                       go_simp
                       with_reducible rfl
                      rotate_left
                      ·simp only [Act.put,sA,s0,sS,i64_w,i32_w]
                       rfl
                      refine pure_ (i:=4) (N:=some 185) (v:=?_) (a':=?_) #[t_,t_,t_,f_,t_,f_,f_,f_,f_] rfl rfl (any_of HT_.out (by kernel_rfl)) (fun _ _ _ h=>h) (Or.inl ⟨by rfl, ?_⟩) ?_ ?_
                      rotate_left
                      ·intro w'
                       go_simp
                       with_reducible rfl
                      rotate_left
                      ·simp only [Act.put,sA,s0,sS,i64_w,i32_w]
                       rfl
                      refine pure_ (i:=5) (N:=some 186) (v:=?_) (a':=?_) #[t_,t_,t_,f_,t_,t_,f_,f_,f_] rfl rfl (any_of HT_.out (by kernel_rfl)) (fun _ _ _ h=>h) (Or.inl ⟨by rfl, ?_⟩) ?_ ?_
                      rotate_left
                      ·intro w'
                       go_simp
                       with_reducible rfl
                      rotate_left
                      ·simp only [Act.put,sA,s0,sS,i64_w,i32_w]
                       rfl
                      refine pure_ (i:=6) (N:=some 187) (v:=?_) (a':=?_) #[t_,t_,t_,f_,t_,t_,t_,f_,f_] rfl rfl (any_of HT_.out (by kernel_rfl)) (fun _ _ _ h=>h) (Or.inl ⟨by rfl, ?_⟩) ?_ ?_
                      rotate_left
                      ·intro w'
                       go_simp
                       with_reducible rfl
                      rotate_left
                      ·simp only [Act.put,sA,s0,sS,i64_w,i32_w]
                       rfl
                      refine take_ (i:=3) (N:=some 184) (v:=?_) (a':=?_) #[t_,t_,t_,t_,t_,t_,t_,f_,f_] rfl rfl (take_ofW HT_.out HW_.out (by kernel_rfl)) (fun _ _ _ h=>h) (Or.inl ⟨by rfl, ?_⟩) hHeld ?_ ?_
                      rotate_left
                      ·rintro w' ⟨s0,s1⟩
                       go_simp
                       with_reducible rfl
                      rotate_left
                      ·simp only [Act.put,sA,s0,sS,i64_w,i32_w]
                       rfl
                      refine take_ (i:=7) (N:=some 188) (v:=?_) (a':=?_) #[t_,t_,t_,t_,t_,t_,t_,t_,f_] rfl rfl (take_ofW HT_.out HW_.out (by kernel_rfl)) (fun _ _ _ h=>h) (Or.inl ⟨by rfl, ?_⟩) hHeld ?_ ?_
                      rotate_left
                      ·rintro w' ⟨s0,s1⟩
                       go_simp
                       with_reducible rfl
                      rotate_left
                      ·simp only [Act.put,sA,s0,sS,i64_w,i32_w]
                       rfl
                      refine pure_ (i:=8) (N:=some 189) (v:=?_) (a':=?_) #[t_,t_,t_,t_,t_,t_,t_,t_,t_] rfl rfl (any_of HT_.out (by kernel_rfl)) (fun _ _ _ h=>h) (Or.inl ⟨by rfl, ?_⟩) ?_ ?_
                      rotate_left
                      ·intro w'
                       go_simp
                       with_reducible rfl
                      rotate_left
                      ·simp only [Act.put,sA,s0,sS,i64_w,i32_w]
                       rfl
                      refine done_ (done_of HT_.out (by kernel_rfl)) ?_
                      try go_wp2
                      go_roundg k4
                      case measure=>have:=HJ5.out;have:=HK2.out;have:=HJ129.out;have:=HK4.out;omega
                      case rel=>exact ⟨(wrap64 (x20_4 + 1)),(by first|rfl|(simp;done)|(simp [*];done)),H',⟨by have:=HJ5.out;have:=HK2.out;have:=HJ129.out;have:=HK4.out;omega⟩,⟨by (with_reducible repeat (first|apply rA|apply rN|apply rD));exact HO_16.out⟩,⟨by (with_reducible repeat (first|apply rA|apply rN|apply rD));exact HO_18.out⟩,⟨by (with_reducible repeat (first|apply rA|apply rN|apply rD));exact HO_612001.out⟩,⟨by (with_reducible repeat (first|apply bN|apply bD|apply bA));exact BK607.out⟩,⟨by (with_reducible repeat (first|apply bN|apply bD|apply bA));exact BK608.out⟩,⟨by (with_reducible repeat (first|apply bN|apply bD|apply bA));exact BK611.out⟩,⟨by repeat (first|(with_reducible first|exact HB.out|apply lA|apply lN|apply lD|refine lS ?_ GE607.out|refine lS ?_ GE608.out|refine lS ?_ GE611.out)|exact HB.out)⟩⟩
                     ·rw [if_neg c162] at H
                      exact absurd H (by simp)
                    ·rw [if_neg c161] at H
                     exact absurd H (by simp)
                   ·rw [if_neg c160] at H
                    exact absurd H (by simp)
                  ·rw [if_neg c159] at H
                   have c159b0 : decide (x20_4 < (t624.length : Int)) = false:=decide_eq_false c159
                   clear c159
                   obtain rfl:=Option.some.inj H
                   obtain ⟨Ao166,co166,eo166⟩ := Kd.R_slice HO_16.out
                   subst eo166
                   go_wp2
                   go_ret
                   exact ⟨by first|rfl|(simp [errW_none,errW_some] <;> rfl)|(simp [*,errW_none,errW_some] <;> rfl),by repeat (first|(with_reducible first|exact HB.out|apply lA|apply lN|apply lD|refine lS ?_ GE607.out|refine lS ?_ GE608.out|refine lS ?_ GE611.out)|exact HB.out)⟩
          ·rw [if_neg c124] at H
           have c124b0 : (t617 == 0) = false:=beq_eq_false_iff_ne.mpr c124
           have c124b1 : (t617 != 0) = true:=bne_iff_ne.mpr c124
           obtain rfl:=Option.some.inj H
           have hnb167:=NB607_608.out
           have hnc167:=NB608_607.out
           have hnb168:=NB607_611.out
           have hnc168:=NB611_607.out
           have hcz169_0 : wr.cell? ⟨gb607,0,none⟩ = some (.string a0_0):=(blk_cell BK607.out 0).trans rfl
           have hcz169_1 : wr.cell? ⟨gb607,1,none⟩ = some (.slice A0_1 l0_1.length c0_1):=(blk_cell BK607.out 1).trans rfl
           have hfz169_0:=blk_frozen BK607.out 0
           have hfz169_1:=blk_frozen BK607.out 1
           have hnb170:=NB611_608.out
           have hnc170:=NB608_611.out
           have hcz171_0 : wr.cell? ⟨gb611,0,none⟩ = some (.string a0_0):=(blk_cell BK611.out 0).trans rfl
           have hcz171_1 : wr.cell? ⟨gb611,1,none⟩ = some (u612001):=(blk_cell BK611.out 1).trans rfl
           have hfz171_0:=blk_frozen BK611.out 0
           have hfz171_1:=blk_frozen BK611.out 1
           obtain ⟨Ao172,co172,eo172⟩ := Kd.R_slice HO_612001.out
           subst eo172
           go_wp2_with (first|((with_reducible refine gate_callee (f:=17) rfl ?_);refine goesL_ (some 113) rfl rfl Try.func17 (by kernel_rfl) rfl #[.agg #[.string a0_0,.slice Ao172 x612001_2.length co172]] rfl (by (try simp only [mT,mC,mN]);first|done|rfl|(simp only [lDr,lTk];rfl)) ?_;(with_reducible refine (profile_Check.calls k2 a0_0 _ _ x612001_2 t617 _ ?side1 ?side2 A123.out).mono ?_);(case side1=>repeat (first|exact (Kd.R_reads' HO_612001.out).2.2|(with_reducible first|apply kA|apply kN|apply kD)));(case side2=>exact (Kd.R_reads' HO_612001.out).2.1);rintro e w173 ⟨rfl,hb⟩;refine ⟨_,rfl, ?_⟩;have n0_:=am (Kd.R_below (by (with_reducible repeat (first|apply rA|apply rN|apply rD));exact HO_612001.out) hb);have n1_:=am (blk_below (g:=gb607) (o:=.cells #[.string a0_0,.slice A0_1 l0_1.length c0_1] 25 (0,0)) (by (with_reducible repeat (first|apply bN|apply bD|apply bA));exact BK607.out) hb);have n2_:=am (blk_below (g:=gb608) (o:=.cells #[.int .i64 a1_0,.int .i64 a1_1] 31 (0,0)) (by (with_reducible repeat (first|apply bN|apply bD|apply bA));exact BK608.out) hb);have n3_:=am (blk_below (g:=gb611) (o:=.cells #[.string a0_0,.slice Ao172 x612001_2.length co172] 25 (0,0)) (by (with_reducible repeat (first|apply bN|apply bD|apply bA));exact BK611.out) hb);have n4_:=am (below_step (by repeat (first|(with_reducible first|exact HB.out|apply lA|apply lN|apply lD|refine lS ?_ GE607.out|refine lS ?_ GE608.out|refine lS ?_ GE611.out)|exact HB.out)) hb);clear HO_612001;clear BK607;clear BK608;clear BK611;clear HB;have HO_612001:=n0_;have BK607:=n1_;have BK608:=n2_;have BK611:=n3_;have HB:=n4_;clear n0_ n1_ n2_ n3_ n4_;(try clear hb);(try clear hb2);(try clear hk);(try clear hi)))
           go_ret
           exact ⟨by first|rfl|(simp [errW_none,errW_some] <;> rfl)|(simp [*,errW_none,errW_some] <;> rfl),by repeat (first|(with_reducible first|exact HB.out|apply lA|apply lN|apply lD|refine lS ?_ GE607.out|refine lS ?_ GE608.out|refine lS ?_ GE611.out)|exact HB.out)⟩
 ·replace c5:=Bool.eq_false_iff.mpr c5
  subst c5
  have H1 : (none) = some r:=by rw [if_neg (show ¬ (false = true) by decide)] at H;exact H
  clear H
  have H:=H1
  clear H1
  exact absurd H (by simp)

end
end Go.Proofs.Ytnjikioimompnaa.PA
