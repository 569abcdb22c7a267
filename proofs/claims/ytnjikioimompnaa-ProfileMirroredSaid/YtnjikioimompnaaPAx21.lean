-- Written by a program of this session out of the translation,over functions proved by hand.
import Derived.Test.YtnjikioimompnaaPAx0
import Derived.Test.YtnjikioimompnaaPAx5
import Derived.Test.YtnjikioimompnaaPAx6
import Derived.Test.YtnjikioimompnaaPAx7
import Derived.Test.YtnjikioimompnaaPAx8
import Derived.Test.YtnjikioimompnaaPAx9
import Derived.Test.YtnjikioimompnaaPAx16
import Derived.Test.YtnjikioimompnaaGiven
namespace Go.Proofs.Ytnjikioimompnaa.PA
open Go.RowKit Go.Proofs.YtnjikioimompnaaW.PrintWords Go.Proofs.YtnjikioimompnaaW.PrintLast Go.Proofs.YtnjikioimompnaaW.PrintMore
attribute [local go_sem] max2_int min2_int max_two min_two max_three min_three max_four min_four   -- for this text's walks alone
set_option linter.unusedVariables false
set_option linter.unusedSimpArgs false
noncomputable section

mutual
def gangsawlaw39_ProfileMirrored.j0 : Nat → Int → Bool → ByteArray → List (S31) → ByteArray → List (S31) → Int → Int → Option (Bool)
 | 0,_,_,_,_,_,_,_,_=>none
 | k + 1,x7,x59,x528000,x528001,x536000,x536001,x542000,x542001=>if x59 = true then (if x7 = 0 then (some (decide (x542000 ≥ (-1000000)))) else (none)) else ((profile_Mirror.f k x528000 x528001).bind fun bt543=>((profile_Canonical.f k x536000 x536001).bind fun bt549=>((profile_Mirror.f k bt543.1 bt543.2.1).bind fun bt555=>(if bt543.2.2 = 0 then (if bt549.2.2 = 0 then (if bt555.2.2 = 0 then ((gangsawlaw39_same.f k x536000 x536001 bt549.1 bt549.2.1).bind fun t561=>(if t561 = true then ((gangsawlaw39_same.f k x536000 x536001 bt555.1 bt555.2.1).bind fun t562=>(gangsawlaw39_ProfileMirrored.j1 k (!t562) x528000 x528001 x536000 x536001 bt543.1 bt543.2.1)) else (gangsawlaw39_ProfileMirrored.j1 k true x528000 x528001 x536000 x536001 bt543.1 bt543.2.1))) else (gangsawlaw39_ProfileMirrored.j1 k true x528000 x528001 x536000 x536001 bt543.1 bt543.2.1)) else (gangsawlaw39_ProfileMirrored.j1 k true x528000 x528001 x536000 x536001 bt543.1 bt543.2.1)) else (gangsawlaw39_ProfileMirrored.j1 k true x528000 x528001 x536000 x536001 bt543.1 bt543.2.1)))))
def gangsawlaw39_ProfileMirrored.j1 : Nat → Bool → ByteArray → List (S31) → ByteArray → List (S31) → ByteArray → List (S31) → Option (Bool)
 | 0,_,_,_,_,_,_,_=>none
 | k + 1,x103,x528000,x528001,x536000,x536001,x549000,x549001=>if x103 = true then (none) else ((profile_Area.f k x528000 x528001).bind fun bt563=>((profile_Area.f k x536000 x536001).bind fun bt565=>((profile_Area.f k x549000 x549001).bind fun bt567=>(if bt563.2 = 0 then (if bt565.2 = 0 then (if bt567.2 = 0 then (if bt563.1 = bt565.1 then (gangsawlaw39_ProfileMirrored.j2 k (bt563.1 != bt567.1) x528000 x528001 x549000 x549001) else (gangsawlaw39_ProfileMirrored.j2 k true x528000 x528001 x549000 x549001)) else (gangsawlaw39_ProfileMirrored.j2 k true x528000 x528001 x549000 x549001)) else (gangsawlaw39_ProfileMirrored.j2 k true x528000 x528001 x549000 x549001)) else (gangsawlaw39_ProfileMirrored.j2 k true x528000 x528001 x549000 x549001)))))
def gangsawlaw39_ProfileMirrored.j2 : Nat → Bool → ByteArray → List (S31) → ByteArray → List (S31) → Option (Bool)
 | 0,_,_,_,_,_=>none
 | k + 1,x138,x528000,x528001,x549000,x549001=>if x138 = true then (none) else (gangsawlaw39_ProfileMirrored.l0 k 0 x528000 x528001 x549000 x549001)
def gangsawlaw39_ProfileMirrored.l0 : Nat → Int → ByteArray → List (S31) → ByteArray → List (S31) → Option (Bool)
 | 0,_,_,_,_,_=>none
 | k + 1,x20,x528000,x528001,x549000,x549001=>if x20 < 4 then (if x20 < 2 then (gangsawlaw39_ProfileMirrored.j4 k x20 (wrap64 (1 - x20)) x528000 x528001 x549000 x549001) else (gangsawlaw39_ProfileMirrored.j4 k x20 x20 x528000 x528001 x549000 x549001)) else (some true)
def gangsawlaw39_ProfileMirrored.j4 : Nat → Int → Int → ByteArray → List (S31) → ByteArray → List (S31) → Option (Bool)
 | 0,_,_,_,_,_,_=>none
 | k + 1,x20,x21,x528000,x528001,x549000,x549001=>(profile_Undercut.f k x528000 x528001 x20).bind fun bt569=>((profile_Undercut.f k x549000 x549001 x21).bind fun bt571=>(if bt569.2 = bt571.2 then (gangsawlaw39_ProfileMirrored.l0 k (wrap64 (x20 + 1)) x528000 x528001 x549000 x549001) else (none)))
end
def gangsawlaw39_ProfileMirrored.f (k : Nat) (a0_0 : ByteArray) (l0_1 : List (S31)) : Option (Bool):=(gangsawlaw39_awake.f k).bind fun t528=>(if t528 = true then ((gangsawref39_Short.f a0_0 l0_1).bind fun t529=>(if t529 = true then ((profile_Canonical.f k a0_0 l0_1).bind fun bt530=>(if bt530.2.2 = 0 then ((profile_Bounds.f k a0_0 l0_1).bind fun bt536=>(if bt536.2.2.2.2 = 0 then (if bt536.2.2.1 > 1000000 then (gangsawlaw39_ProfileMirrored.j0 k bt536.2.2.2.2 true a0_0 l0_1 bt530.1 bt530.2.1 bt536.1 bt536.2.1) else (gangsawlaw39_ProfileMirrored.j0 k bt536.2.2.2.2 (decide (bt536.2.2.2.1 > 1000000)) a0_0 l0_1 bt530.1 bt530.2.1 bt536.1 bt536.2.1)) else (gangsawlaw39_ProfileMirrored.j0 k bt536.2.2.2.2 true a0_0 l0_1 bt530.1 bt530.2.1 bt536.1 bt536.2.1))) else (some ((bt530.2.1.length : Int) == 0)))) else (some true))) else (none))
set_option maxHeartbeats 8000000 in
set_option maxRecDepth 100000 in
theorem gangsawlaw39_ProfileMirrored.calls (k : Nat) (a0_0 : ByteArray) (A0_1 : Option Addr) (c0_1 : Nat) (l0_1 : List (S31)) (r : Bool) (w : World) (hr0_1 : Kd.C k31 w A0_1 l0_1.length l0_1) (hc0_1 : l0_1.length ≤ c0_1) (h : gangsawlaw39_ProfileMirrored.f k a0_0 l0_1 = some r) :
  Calls Try.prog 7 #[.agg #[.string a0_0,.slice A0_1 l0_1.length c0_1]] w fun e w'=>e = .returned (.bool r) ∧ Below w.heap.size w w':=by
 have hu25:=Try.underlying25
 have hu31:=Try.underlying31
 have HR0_1:=am hr0_1
 have HC0_1:=am hc0_1
 clear hr0_1 hc0_1
 have HB:=am (Below.refl w.heap.size w)
 have H : ((gangsawlaw39_awake.f k).bind fun t528=>(if t528 = true then ((gangsawref39_Short.f a0_0 l0_1).bind fun t529=>(if t529 = true then ((profile_Canonical.f k a0_0 l0_1).bind fun bt530=>(if bt530.2.2 = 0 then ((profile_Bounds.f k a0_0 l0_1).bind fun bt536=>(if bt536.2.2.2.2 = 0 then (if bt536.2.2.1 > 1000000 then (gangsawlaw39_ProfileMirrored.j0 k bt536.2.2.2.2 true a0_0 l0_1 bt530.1 bt530.2.1 bt536.1 bt536.2.1) else (gangsawlaw39_ProfileMirrored.j0 k bt536.2.2.2.2 (decide (bt536.2.2.2.1 > 1000000)) a0_0 l0_1 bt530.1 bt530.2.1 bt536.1 bt536.2.1)) else (gangsawlaw39_ProfileMirrored.j0 k bt536.2.2.2.2 true a0_0 l0_1 bt530.1 bt530.2.1 bt536.1 bt536.2.1))) else (some ((bt530.2.1.length : Int) == 0)))) else (some true))) else (none))) = some r:=h
 clear h
 replace H:=Option.bind_eq_some_iff.mp H
 obtain ⟨t528,A20,H⟩ := H
 replace H : (if t528 = true then ((gangsawref39_Short.f a0_0 l0_1).bind fun t529=>(if t529 = true then ((profile_Canonical.f k a0_0 l0_1).bind fun bt530=>(if bt530.2.2 = 0 then ((profile_Bounds.f k a0_0 l0_1).bind fun bt536=>(if bt536.2.2.2.2 = 0 then (if bt536.2.2.1 > 1000000 then (gangsawlaw39_ProfileMirrored.j0 k bt536.2.2.2.2 true a0_0 l0_1 bt530.1 bt530.2.1 bt536.1 bt536.2.1) else (gangsawlaw39_ProfileMirrored.j0 k bt536.2.2.2.2 (decide (bt536.2.2.2.1 > 1000000)) a0_0 l0_1 bt530.1 bt530.2.1 bt536.1 bt536.2.1)) else (gangsawlaw39_ProfileMirrored.j0 k bt536.2.2.2.2 true a0_0 l0_1 bt530.1 bt530.2.1 bt536.1 bt536.2.1))) else (some ((bt530.2.1.length : Int) == 0)))) else (some true))) else (none)) = some r:=H
 have A2:=am A20
 clear A20
 by_cases c3 : t528 = true
 ·subst c3
  have H1 : ((gangsawref39_Short.f a0_0 l0_1).bind fun t529=>(if t529 = true then ((profile_Canonical.f k a0_0 l0_1).bind fun bt530=>(if bt530.2.2 = 0 then ((profile_Bounds.f k a0_0 l0_1).bind fun bt536=>(if bt536.2.2.2.2 = 0 then (if bt536.2.2.1 > 1000000 then (gangsawlaw39_ProfileMirrored.j0 k bt536.2.2.2.2 true a0_0 l0_1 bt530.1 bt530.2.1 bt536.1 bt536.2.1) else (gangsawlaw39_ProfileMirrored.j0 k bt536.2.2.2.2 (decide (bt536.2.2.2.1 > 1000000)) a0_0 l0_1 bt530.1 bt530.2.1 bt536.1 bt536.2.1)) else (gangsawlaw39_ProfileMirrored.j0 k bt536.2.2.2.2 true a0_0 l0_1 bt530.1 bt530.2.1 bt536.1 bt536.2.1))) else (some ((bt530.2.1.length : Int) == 0)))) else (some true))) = some r:=by rw [if_pos rfl] at H;exact H
  clear H
  have H:=H1
  clear H1
  replace H:=Option.bind_eq_some_iff.mp H
  obtain ⟨t529,A40,H⟩ := H
  replace H : (if t529 = true then ((profile_Canonical.f k a0_0 l0_1).bind fun bt530=>(if bt530.2.2 = 0 then ((profile_Bounds.f k a0_0 l0_1).bind fun bt536=>(if bt536.2.2.2.2 = 0 then (if bt536.2.2.1 > 1000000 then (gangsawlaw39_ProfileMirrored.j0 k bt536.2.2.2.2 true a0_0 l0_1 bt530.1 bt530.2.1 bt536.1 bt536.2.1) else (gangsawlaw39_ProfileMirrored.j0 k bt536.2.2.2.2 (decide (bt536.2.2.2.1 > 1000000)) a0_0 l0_1 bt530.1 bt530.2.1 bt536.1 bt536.2.1)) else (gangsawlaw39_ProfileMirrored.j0 k bt536.2.2.2.2 true a0_0 l0_1 bt530.1 bt530.2.1 bt536.1 bt536.2.1))) else (some ((bt530.2.1.length : Int) == 0)))) else (some true)) = some r:=H
  have A4:=am A40
  clear A40
  by_cases c5 : t529 = true
  ·subst c5
   have H1 : ((profile_Canonical.f k a0_0 l0_1).bind fun bt530=>(if bt530.2.2 = 0 then ((profile_Bounds.f k a0_0 l0_1).bind fun bt536=>(if bt536.2.2.2.2 = 0 then (if bt536.2.2.1 > 1000000 then (gangsawlaw39_ProfileMirrored.j0 k bt536.2.2.2.2 true a0_0 l0_1 bt530.1 bt530.2.1 bt536.1 bt536.2.1) else (gangsawlaw39_ProfileMirrored.j0 k bt536.2.2.2.2 (decide (bt536.2.2.2.1 > 1000000)) a0_0 l0_1 bt530.1 bt530.2.1 bt536.1 bt536.2.1)) else (gangsawlaw39_ProfileMirrored.j0 k bt536.2.2.2.2 true a0_0 l0_1 bt530.1 bt530.2.1 bt536.1 bt536.2.1))) else (some ((bt530.2.1.length : Int) == 0)))) = some r:=by rw [if_pos rfl] at H;exact H
   clear H
   have H:=H1
   clear H1
   replace H:=Option.bind_eq_some_iff.mp H
   obtain ⟨⟨t530,t531,t534⟩,A60,H⟩ := H
   replace H : (if t534 = 0 then ((profile_Bounds.f k a0_0 l0_1).bind fun bt536=>(if bt536.2.2.2.2 = 0 then (if bt536.2.2.1 > 1000000 then (gangsawlaw39_ProfileMirrored.j0 k bt536.2.2.2.2 true a0_0 l0_1 t530 t531 bt536.1 bt536.2.1) else (gangsawlaw39_ProfileMirrored.j0 k bt536.2.2.2.2 (decide (bt536.2.2.2.1 > 1000000)) a0_0 l0_1 t530 t531 bt536.1 bt536.2.1)) else (gangsawlaw39_ProfileMirrored.j0 k bt536.2.2.2.2 true a0_0 l0_1 t530 t531 bt536.1 bt536.2.1))) else (some ((t531.length : Int) == 0))) = some r:=H
   have A6:=am A60
   clear A60
   by_cases c7 : t534 = 0
   ·rw [if_pos c7] at H
    have c7b0 : (t534 == 0) = true:=beq_iff_eq.mpr c7
    have c7b1 : (t534 != 0) = false:=bne_eq_false_iff_eq.mpr c7
    clear c7
    replace H:=Option.bind_eq_some_iff.mp H
    obtain ⟨⟨t536,t537,t538,t539,t540⟩,A80,H⟩ := H
    replace H : (if t540 = 0 then (if t538 > 1000000 then (gangsawlaw39_ProfileMirrored.j0 k t540 true a0_0 l0_1 t530 t531 t536 t537) else (gangsawlaw39_ProfileMirrored.j0 k t540 (decide (t539 > 1000000)) a0_0 l0_1 t530 t531 t536 t537)) else (gangsawlaw39_ProfileMirrored.j0 k t540 true a0_0 l0_1 t530 t531 t536 t537)) = some r:=H
    have A8:=am A80
    clear A80
    have HC9:=am H
    clear H
    go_enter Try.func7,Try.ntmps7
    go_upto_region 9 with (first|((with_reducible refine gate_dst (N:=1) rfl ?_);refine box_event ?hg (N:=1) ?hd (cs:=#[.string a0_0,.slice A0_1 l0_1.length c0_1]) (t:=25) ?hr ?_;(case hd=>rfl);(case hg=>rfl);(case hr=>first|(go_simp;done)|(go_simp;rfl));intro gb527 hg w10 hbox hb;have n0_:=am (below_step (by repeat (first|(with_reducible first|exact HB.out|apply lA|apply lN|apply lD)|exact HB.out)) hb);have n1_:=am (hbox);have n2_:=am ((by rw [hg];exact (below_size (by repeat (first|(with_reducible first|exact HB.out|apply lA|apply lN|apply lD)|exact HB.out))) : w.heap.size ≤ gb527));have n3_:=am ((by rw [hg];exact (below_size (by repeat (first|(with_reducible first|exact HB.out|apply lA|apply lN|apply lD)|exact HB.out))) : w.heap.size ≤ gb527));clear HB;have HB:=n0_;have BK527:=n1_;have GW527:=n2_;have GE527:=n3_;clear n0_ n1_ n2_ n3_;clear hb hbox hg)|((with_reducible refine gate_callee (f:=11) rfl ?_);refine goesL_ (some 26) rfl rfl Try.func11 (by kernel_rfl) rfl #[] rfl (by (try simp only [mT,mC,mN]);first|done|rfl|(simp only [lDr,lTk];rfl)) ?_;(with_reducible refine (gangsawlaw39_awake.calls k  true _ A2.out).mono ?_);rintro e w11 ⟨rfl,hb⟩;refine ⟨_,rfl, ?_⟩;have n0_:=am (blk_below (g:=gb527) (o:=.cells #[.string a0_0,.slice A0_1 l0_1.length c0_1] 25 (0,0)) (by (with_reducible repeat (first|apply bN|apply bD|apply bA));exact BK527.out) hb);have n1_:=am (below_step (by repeat (first|(with_reducible first|exact HB.out|apply lA|apply lN|apply lD|refine lS ?_ GE527.out)|exact HB.out)) hb);clear BK527;clear HB;have BK527:=n0_;have HB:=n1_;clear n0_ n1_;(try clear hb);(try clear hb2);(try clear hk);(try clear hi);have hcz12_0 : w11.cell? ⟨gb527,0,none⟩ = some (.string a0_0):=(blk_cell BK527.out 0).trans rfl;have hcz12_1 : w11.cell? ⟨gb527,1,none⟩ = some (.slice A0_1 l0_1.length c0_1):=(blk_cell BK527.out 1).trans rfl;have hfz12_0:=blk_frozen BK527.out 0;have hfz12_1:=blk_frozen BK527.out 1)|((with_reducible refine gate_callee (f:=12) rfl ?_);refine goesL_ (some 29) rfl rfl Try.func12 (by kernel_rfl) rfl #[.agg #[.string a0_0,.slice A0_1 l0_1.length c0_1]] rfl (by (try simp only [mT,mC,mN]);first|done|rfl|(simp only [lDr,lTk];rfl)) ?_;(with_reducible refine (gangsawref39_Short.calls a0_0 _ _ l0_1 true _ ?side1 ?side2 A4.out).mono ?_);(case side1=>repeat (first|exact (kB HR0_1.out HB.out)|(with_reducible first|apply kA|apply kN|apply kD)));(case side2=>exact HC0_1.out);rintro e w13 ⟨rfl,hb⟩;refine ⟨_,rfl, ?_⟩;have n0_:=am (blk_below (g:=gb527) (o:=.cells #[.string a0_0,.slice A0_1 l0_1.length c0_1] 25 (0,0)) (by (with_reducible repeat (first|apply bN|apply bD|apply bA));exact BK527.out) hb);have n1_:=am (below_step (by repeat (first|(with_reducible first|exact HB.out|apply lA|apply lN|apply lD|refine lS ?_ GE527.out)|exact HB.out)) hb);clear BK527;clear HB;have BK527:=n0_;have HB:=n1_;clear n0_ n1_;(try clear hb);(try clear hb2);(try clear hk);(try clear hi);have hcz14_0 : w13.cell? ⟨gb527,0,none⟩ = some (.string a0_0):=(blk_cell BK527.out 0).trans rfl;have hcz14_1 : w13.cell? ⟨gb527,1,none⟩ = some (.slice A0_1 l0_1.length c0_1):=(blk_cell BK527.out 1).trans rfl;have hfz14_0:=blk_frozen BK527.out 0;have hfz14_1:=blk_frozen BK527.out 1)|((with_reducible refine gate_callee (f:=20) rfl ?_);refine goesL_ (some 33) rfl rfl Try.func20 (by kernel_rfl) rfl #[.agg #[.string a0_0,.slice A0_1 l0_1.length c0_1]] rfl (by (try simp only [mT,mC,mN]);first|done|rfl|(simp only [lDr,lTk];rfl)) ?_;(with_reducible refine (profile_Canonical.calls k a0_0 _ _ l0_1 t530 t531 t534 _ ?side1 ?side2 A6.out).mono ?_);(case side1=>repeat (first|exact (kB HR0_1.out HB.out)|(with_reducible first|apply kA|apply kN|apply kD)));(case side2=>exact HC0_1.out);rintro e w15 ⟨v532,rfl,ho0,hb⟩;refine ⟨_,rfl, ?_⟩;have n0_:=am (Kd.R_lower ho0 (below_size (by repeat (first|(with_reducible first|exact HB.out|apply lA|apply lN|apply lD|refine lS ?_ GE527.out)|exact HB.out))));have n1_:=am (blk_below (g:=gb527) (o:=.cells #[.string a0_0,.slice A0_1 l0_1.length c0_1] 25 (0,0)) (by (with_reducible repeat (first|apply bN|apply bD|apply bA));exact BK527.out) hb);have n2_:=am (below_step (by repeat (first|(with_reducible first|exact HB.out|apply lA|apply lN|apply lD|refine lS ?_ GE527.out)|exact HB.out)) hb);clear BK527;clear HB;have HO533:=n0_;have BK527:=n1_;have HB:=n2_;clear n0_ n1_ n2_;(try clear hb);(try clear hb2);(try clear hk);(try clear hi);(try clear ho0))|((with_reducible refine gate_dst (N:=3) rfl ?_);refine box_event ?hg (N:=3) ?hd (cs:=#[.string (⟨#[]⟩ : ByteArray),.slice none 0 0]) (t:=25) ?hr ?_;(case hd=>rfl);(case hg=>rfl);(case hr=>first|(go_simp;done)|(go_simp;rfl));intro gb535 hg w16 hbox hb;have n0_:=am (Kd.R_below (by (with_reducible repeat (first|apply rA|apply rN|apply rD));exact HO533.out) hb);have n1_:=am (blk_below (g:=gb527) (o:=.cells #[.string a0_0,.slice A0_1 l0_1.length c0_1] 25 (0,0)) (by (with_reducible repeat (first|apply bN|apply bD|apply bA));exact BK527.out) hb);have n2_:=am (below_step (by repeat (first|(with_reducible first|exact HB.out|apply lA|apply lN|apply lD|refine lS ?_ GE527.out)|exact HB.out)) hb);have n3_:=am (hbox);have n4_:=am ((by rw [hg];exact (below_size (by repeat (first|(with_reducible first|exact HB.out|apply lA|apply lN|apply lD|refine lS ?_ GE527.out)|exact HB.out))) : w.heap.size ≤ gb535));have n5_:=am ((by rw [hg];exact (below_size (by repeat (first|(with_reducible first|exact HB.out|apply lA|apply lN|apply lD|refine lS ?_ GE527.out)|exact HB.out))) : w.heap.size ≤ gb535));have n6_:=am ((by rw [hg];exact Nat.ne_of_lt (blk_lt (g:=gb527) (o:=.cells #[.string a0_0,.slice A0_1 l0_1.length c0_1] 25 (0,0)) (by (with_reducible repeat (first|apply bN|apply bD|apply bA));exact BK527.out)) : gb527 ≠ gb535));have n7_:=am ((by rw [hg];exact Nat.ne_of_gt (blk_lt (g:=gb527) (o:=.cells #[.string a0_0,.slice A0_1 l0_1.length c0_1] 25 (0,0)) (by (with_reducible repeat (first|apply bN|apply bD|apply bA));exact BK527.out)) : gb535 ≠ gb527));clear HO533;clear BK527;clear HB;have HO533:=n0_;have BK527:=n1_;have HB:=n2_;have BK535:=n3_;have GW535:=n4_;have GE535:=n5_;have NB527_535:=n6_;have NB535_527:=n7_;clear n0_ n1_ n2_ n3_ n4_ n5_ n6_ n7_;clear hb hbox hg;have hnb17:=NB535_527.out;have hnc17:=NB527_535.out;have hcz18_0 : w16.cell? ⟨gb535,0,none⟩ = some (.string (⟨#[]⟩ : ByteArray)):=(blk_cell BK535.out 0).trans rfl;have hcz18_1 : w16.cell? ⟨gb535,1,none⟩ = some (.slice none 0 0):=(blk_cell BK535.out 1).trans rfl;have hfz18_0:=blk_frozen BK535.out 0;have hfz18_1:=blk_frozen BK535.out 1;obtain ⟨Ao19,co19,eo19⟩ := Kd.R_slice HO533.out;subst eo19;have hcz20_0 : w16.cell? ⟨gb527,0,none⟩ = some (.string a0_0):=(blk_cell BK527.out 0).trans rfl;have hcz20_1 : w16.cell? ⟨gb527,1,none⟩ = some (.slice A0_1 l0_1.length c0_1):=(blk_cell BK527.out 1).trans rfl;have hfz20_0:=blk_frozen BK527.out 0;have hfz20_1:=blk_frozen BK527.out 1)|((with_reducible refine gate_callee (f:=14) rfl ?_);refine goesL_ (some 44) rfl rfl Try.func14 (by kernel_rfl) rfl #[.agg #[.string a0_0,.slice A0_1 l0_1.length c0_1]] rfl (by (try simp only [mT,mC,mN]);first|done|rfl|(simp only [lDr,lTk];rfl)) ?_;(with_reducible refine (profile_Bounds.calls k a0_0 _ _ l0_1 t536 t537 t538 t539 t540 _ ?side1 ?side2 A8.out).mono ?_);(case side1=>exact Kd.C_below HR0_1.out (by repeat (first|(with_reducible first|exact HB.out|apply lA|apply lN|apply lD|refine lS ?_ GE527.out|refine lS ?_ GE535.out)|exact HB.out)));(case side2=>exact HC0_1.out);rintro e w21 ⟨rfl,hb⟩;refine ⟨_,rfl, ?_⟩;have n0_:=am (Kd.R_below (by (with_reducible repeat (first|apply rA|apply rN|apply rD));exact (Kd.R_mono (Kd.R_far (p:=⟨gb535,1,none⟩) (Kd.R_far (p:=⟨gb535,0,none⟩) (Kd.R_types HO533.out BK535.out (by decide)) (fun _ hk=>hk.2) (.string t530)) (fun _ hk=>hk.2) (.slice Ao19 t531.length co19)) (fun _ h_=>h_.1))) hb);have n1_:=am (blk_below (g:=gb527) (o:=.cells #[.string a0_0,.slice A0_1 l0_1.length c0_1] 25 (0,0)) (by (with_reducible repeat (first|apply bN|apply bD|apply bA));refine blk_far ?_ NB527_535.out _;(with_reducible repeat (first|apply bN|apply bD|apply bA));refine blk_far ?_ NB527_535.out _;(with_reducible repeat (first|apply bN|apply bD|apply bA));exact BK527.out) hb);have n2_:=am (blk_below (g:=gb535) (o:=.cells #[.string t530,.slice Ao19 t531.length co19] 25 (0,0)) (by (with_reducible repeat (first|apply bN|apply bD|apply bA));refine blk_put (cs:=#[.string t530,.slice none 0 0]) ?_ 1 _ rfl;(with_reducible repeat (first|apply bN|apply bD|apply bA));refine blk_put (cs:=#[.string (⟨#[]⟩ : ByteArray),.slice none 0 0]) ?_ 0 _ rfl;(with_reducible repeat (first|apply bN|apply bD|apply bA));exact BK535.out) hb);have n3_:=am (below_step (by repeat (first|(with_reducible first|exact HB.out|apply lA|apply lN|apply lD|refine lS ?_ GE527.out|refine lS ?_ GE535.out)|exact HB.out)) hb);clear HO533;clear BK527;clear BK535;clear HB;have HO533:=n0_;have BK527:=n1_;have BK535:=n2_;have HB:=n3_;clear n0_ n1_ n2_ n3_;(try clear hb);(try clear hb2);(try clear hk);(try clear hi))|((with_reducible refine gate_dst (N:=5) rfl ?_);refine box_event ?hg (N:=5) ?hd (cs:=#[.int .i64 0,.int .i64 0]) (t:=31) ?hr ?_;(case hd=>rfl);(case hg=>rfl);(case hr=>first|(go_simp;done)|(go_simp;rfl));intro gb541 hg w22 hbox hb;have n0_:=am (Kd.R_below (Kd.R_elderB (by (with_reducible repeat (first|apply rA|apply rN|apply rD));exact HO533.out) gb541 (Nat.le_of_eq hg.symm)) hb);have n1_:=am (blk_below (g:=gb527) (o:=.cells #[.string a0_0,.slice A0_1 l0_1.length c0_1] 25 (0,0)) (by (with_reducible repeat (first|apply bN|apply bD|apply bA));exact BK527.out) hb);have n2_:=am (blk_below (g:=gb535) (o:=.cells #[.string t530,.slice Ao19 t531.length co19] 25 (0,0)) (by (with_reducible repeat (first|apply bN|apply bD|apply bA));exact BK535.out) hb);have n3_:=am (below_step (by repeat (first|(with_reducible first|exact HB.out|apply lA|apply lN|apply lD|refine lS ?_ GE527.out|refine lS ?_ GE535.out)|exact HB.out)) hb);have n4_:=am (hbox);have n5_:=am ((by rw [hg];exact (below_size (by repeat (first|(with_reducible first|exact HB.out|apply lA|apply lN|apply lD|refine lS ?_ GE527.out|refine lS ?_ GE535.out)|exact HB.out))) : w.heap.size ≤ gb541));have n6_:=am ((by rw [hg];exact (below_size (by repeat (first|(with_reducible first|exact HB.out|apply lA|apply lN|apply lD|refine lS ?_ GE527.out|refine lS ?_ GE535.out)|exact HB.out))) : w.heap.size ≤ gb541));have n7_:=am ((by rw [hg];exact Nat.ne_of_lt (blk_lt (g:=gb527) (o:=.cells #[.string a0_0,.slice A0_1 l0_1.length c0_1] 25 (0,0)) (by (with_reducible repeat (first|apply bN|apply bD|apply bA));exact BK527.out)) : gb527 ≠ gb541));have n8_:=am ((by rw [hg];exact Nat.ne_of_gt (blk_lt (g:=gb527) (o:=.cells #[.string a0_0,.slice A0_1 l0_1.length c0_1] 25 (0,0)) (by (with_reducible repeat (first|apply bN|apply bD|apply bA));exact BK527.out)) : gb541 ≠ gb527));have n9_:=am ((by rw [hg];exact Nat.ne_of_lt (blk_lt (g:=gb535) (o:=.cells #[.string t530,.slice Ao19 t531.length co19] 25 (0,0)) (by (with_reducible repeat (first|apply bN|apply bD|apply bA));exact BK535.out)) : gb535 ≠ gb541));have n10_:=am ((by rw [hg];exact Nat.ne_of_gt (blk_lt (g:=gb535) (o:=.cells #[.string t530,.slice Ao19 t531.length co19] 25 (0,0)) (by (with_reducible repeat (first|apply bN|apply bD|apply bA));exact BK535.out)) : gb541 ≠ gb535));clear HO533;clear BK527;clear BK535;clear HB;have HO533:=n0_;have BK527:=n1_;have BK535:=n2_;have HB:=n3_;have BK541:=n4_;have GW541:=n5_;have GE541:=n6_;have NB527_541:=n7_;have NB541_527:=n8_;have NB535_541:=n9_;have NB541_535:=n10_;clear n0_ n1_ n2_ n3_ n4_ n5_ n6_ n7_ n8_ n9_ n10_;clear hb hbox hg)|((with_reducible refine gate_dst (N:=6) rfl ?_);refine box_event ?hg (N:=6) ?hd (cs:=#[.int .i64 0,.int .i64 0]) (t:=31) ?hr ?_;(case hd=>rfl);(case hg=>rfl);(case hr=>first|(go_simp;done)|(go_simp;rfl));intro gb542 hg w23 hbox hb;have n0_:=am (Kd.R_below (Kd.R_elderB (by (with_reducible repeat (first|apply rA|apply rN|apply rD));exact HO533.out) gb542 (Nat.le_of_eq hg.symm)) hb);have n1_:=am (blk_below (g:=gb527) (o:=.cells #[.string a0_0,.slice A0_1 l0_1.length c0_1] 25 (0,0)) (by (with_reducible repeat (first|apply bN|apply bD|apply bA));exact BK527.out) hb);have n2_:=am (blk_below (g:=gb535) (o:=.cells #[.string t530,.slice Ao19 t531.length co19] 25 (0,0)) (by (with_reducible repeat (first|apply bN|apply bD|apply bA));exact BK535.out) hb);have n3_:=am (blk_below (g:=gb541) (o:=.cells #[.int .i64 0,.int .i64 0] 31 (0,0)) (by (with_reducible repeat (first|apply bN|apply bD|apply bA));exact BK541.out) hb);have n4_:=am (below_step (by repeat (first|(with_reducible first|exact HB.out|apply lA|apply lN|apply lD|refine lS ?_ GE527.out|refine lS ?_ GE535.out|refine lS ?_ GE541.out)|exact HB.out)) hb);have n5_:=am (hbox);have n6_:=am ((by rw [hg];exact (below_size (by repeat (first|(with_reducible first|exact HB.out|apply lA|apply lN|apply lD|refine lS ?_ GE527.out|refine lS ?_ GE535.out|refine lS ?_ GE541.out)|exact HB.out))) : w.heap.size ≤ gb542));have n7_:=am ((by rw [hg];exact (below_size (by repeat (first|(with_reducible first|exact HB.out|apply lA|apply lN|apply lD|refine lS ?_ GE527.out|refine lS ?_ GE535.out|refine lS ?_ GE541.out)|exact HB.out))) : w.heap.size ≤ gb542));have n8_:=am ((by rw [hg];exact Nat.ne_of_lt (blk_lt (g:=gb527) (o:=.cells #[.string a0_0,.slice A0_1 l0_1.length c0_1] 25 (0,0)) (by (with_reducible repeat (first|apply bN|apply bD|apply bA));exact BK527.out)) : gb527 ≠ gb542));have n9_:=am ((by rw [hg];exact Nat.ne_of_gt (blk_lt (g:=gb527) (o:=.cells #[.string a0_0,.slice A0_1 l0_1.length c0_1] 25 (0,0)) (by (with_reducible repeat (first|apply bN|apply bD|apply bA));exact BK527.out)) : gb542 ≠ gb527));have n10_:=am ((by rw [hg];exact Nat.ne_of_lt (blk_lt (g:=gb535) (o:=.cells #[.string t530,.slice Ao19 t531.length co19] 25 (0,0)) (by (with_reducible repeat (first|apply bN|apply bD|apply bA));exact BK535.out)) : gb535 ≠ gb542));have n11_:=am ((by rw [hg];exact Nat.ne_of_gt (blk_lt (g:=gb535) (o:=.cells #[.string t530,.slice Ao19 t531.length co19] 25 (0,0)) (by (with_reducible repeat (first|apply bN|apply bD|apply bA));exact BK535.out)) : gb542 ≠ gb535));have n12_:=am ((by rw [hg];exact Nat.ne_of_lt (blk_lt (g:=gb541) (o:=.cells #[.int .i64 0,.int .i64 0] 31 (0,0)) (by (with_reducible repeat (first|apply bN|apply bD|apply bA));exact BK541.out)) : gb541 ≠ gb542));have n13_:=am ((by rw [hg];exact Nat.ne_of_gt (blk_lt (g:=gb541) (o:=.cells #[.int .i64 0,.int .i64 0] 31 (0,0)) (by (with_reducible repeat (first|apply bN|apply bD|apply bA));exact BK541.out)) : gb542 ≠ gb541));clear HO533;clear BK527;clear BK535;clear BK541;clear HB;have HO533:=n0_;have BK527:=n1_;have BK535:=n2_;have BK541:=n3_;have HB:=n4_;have BK542:=n5_;have GW542:=n6_;have GE542:=n7_;have NB527_542:=n8_;have NB542_527:=n9_;have NB535_542:=n10_;have NB542_535:=n11_;have NB541_542:=n12_;have NB542_541:=n13_;clear n0_ n1_ n2_ n3_ n4_ n5_ n6_ n7_ n8_ n9_ n10_ n11_ n12_ n13_;clear hb hbox hg;have hnb24:=NB541_527.out;have hnc24:=NB527_541.out;have hnb25:=NB541_535.out;have hnc25:=NB535_541.out;have hnb26:=NB541_542.out;have hnc26:=NB542_541.out;have hcz27_0 : w23.cell? ⟨gb541,0,none⟩ = some (.int .i64 0):=(blk_cell BK541.out 0).trans rfl;have hcz27_1 : w23.cell? ⟨gb541,1,none⟩ = some (.int .i64 0):=(blk_cell BK541.out 1).trans rfl;have hfz27_0:=blk_frozen BK541.out 0;have hfz27_1:=blk_frozen BK541.out 1;have hnb28:=NB542_527.out;have hnc28:=NB527_542.out;have hnb29:=NB542_535.out;have hnc29:=NB535_542.out;have hcz30_0 : w23.cell? ⟨gb542,0,none⟩ = some (.int .i64 0):=(blk_cell BK542.out 0).trans rfl;have hcz30_1 : w23.cell? ⟨gb542,1,none⟩ = some (.int .i64 0):=(blk_cell BK542.out 1).trans rfl;have hfz30_0:=blk_frozen BK542.out 0;have hfz30_1:=blk_frozen BK542.out 1))
    (try simp only [Act.put,sA,s0,sS])
    go_cut [59] (fun v59 wc=>∃ (kq : Nat) (x59_8 : Bool),v59 = .bool x59_8 ∧ Aside0 (gangsawlaw39_ProfileMirrored.j0 kq t540 x59_8 a0_0 l0_1 t530 t531 t536 t537 = some r) ∧ Aside0 (kq ≤ k) ∧ Aside0 (Kd.R k31 31 wc w.heap.size (fun k_=>k_ ≠ gb541 ∧ k_ ≠ gb542) (.slice Ao19 t531.length co19) t531) ∧ Aside0 (wc.heap[gb527]? = some (.cells #[.string a0_0,(.slice A0_1 l0_1.length c0_1)] 25 (0,0))) ∧ Aside0 (wc.heap[gb535]? = some (.cells #[.string t530,(.slice Ao19 t531.length co19)] 25 (0,0))) ∧ Aside0 (wc.heap[gb541]? = some (.cells #[.int .i64 t536,.int .i64 t537] 31 (0,0))) ∧ Aside0 (wc.heap[gb542]? = some (.cells #[.int .i64 t538,.int .i64 t539] 31 (0,0))) ∧ Aside0 (Below w.heap.size w wc))
    case first =>
     as_aux_lemma =>
      have H:=HC9.out
      clear HC9
      by_cases c31 : t540 = 0
      ·rw [if_pos c31] at H
       have c31b0 : (t540 == 0) = true:=beq_iff_eq.mpr c31
       have c31b1 : (t540 != 0) = false:=bne_eq_false_iff_eq.mpr c31
       clear c31
       (first|rw [c31b0]|(simp only [i64_w,i32_w];rw [c31b0])|skip)
       by_cases c32 : t538 > 1000000
       ·rw [if_pos c32] at H
        have c32b0 : decide (1000000 < t538) = true:=decide_eq_true c32
        clear c32
        have H':=am H
        clear H
        have hnb33:=NB542_527.out
        have hnc33:=NB527_542.out
        have hnb34:=NB542_535.out
        have hnc34:=NB535_542.out
        have hnb35:=NB542_541.out
        have hnc35:=NB541_542.out
        have hcz36_0 : w23.cell? ⟨gb542,0,none⟩ = some (.int .i64 0):=(blk_cell BK542.out 0).trans rfl
        have hcz36_1 : w23.cell? ⟨gb542,1,none⟩ = some (.int .i64 0):=(blk_cell BK542.out 1).trans rfl
        have hfz36_0:=blk_frozen BK542.out 0
        have hfz36_1:=blk_frozen BK542.out 1
        go_wp2
        go_meet
        case rel=>exact ⟨_,(true),(by first|rfl|(simp;done)|(simp [*];done)),H',⟨by first|omega|exact Nat.le_refl _⟩,⟨by (with_reducible repeat (first|apply rA|apply rN|apply rD));exact Kd.R_mono (Kd.R_far (p:=⟨gb542,1,none⟩) (Kd.R_far (p:=⟨gb542,0,none⟩) (Kd.R_far (p:=⟨gb541,1,none⟩) (Kd.R_far (p:=⟨gb541,0,none⟩) (Kd.R_mono (Kd.R_mono HO533.out (fun k_ hk=>(⟨hk,hk.1.2⟩ : _ ∧ k_ ≠ gb541))) (fun k_ hk=>(⟨hk,hk.1.2⟩ : _ ∧ k_ ≠ gb542))) (fun _ hk=>hk.1.2) (.int .i64 t536)) (fun _ hk=>hk.1.2) (.int .i64 t537)) (fun _ hk=>hk.2) (.int .i64 t538)) (fun _ hk=>hk.2) (.int .i64 t539)) (fun _ hk=>⟨hk.1.1.1.2,hk.1.1.2⟩)⟩,⟨by (with_reducible repeat (first|apply bN|apply bD|apply bA));refine blk_far ?_ NB527_542.out _;(with_reducible repeat (first|apply bN|apply bD|apply bA));refine blk_far ?_ NB527_542.out _;(with_reducible repeat (first|apply bN|apply bD|apply bA));refine blk_far ?_ NB527_541.out _;(with_reducible repeat (first|apply bN|apply bD|apply bA));refine blk_far ?_ NB527_541.out _;(with_reducible repeat (first|apply bN|apply bD|apply bA));exact BK527.out⟩,⟨by (with_reducible repeat (first|apply bN|apply bD|apply bA));refine blk_far ?_ NB535_542.out _;(with_reducible repeat (first|apply bN|apply bD|apply bA));refine blk_far ?_ NB535_542.out _;(with_reducible repeat (first|apply bN|apply bD|apply bA));refine blk_far ?_ NB535_541.out _;(with_reducible repeat (first|apply bN|apply bD|apply bA));refine blk_far ?_ NB535_541.out _;(with_reducible repeat (first|apply bN|apply bD|apply bA));exact BK535.out⟩,⟨by (with_reducible repeat (first|apply bN|apply bD|apply bA));refine blk_far ?_ NB541_542.out _;(with_reducible repeat (first|apply bN|apply bD|apply bA));refine blk_far ?_ NB541_542.out _;(with_reducible repeat (first|apply bN|apply bD|apply bA));refine blk_put (cs:=#[.int .i64 t536,.int .i64 0]) ?_ 1 _ rfl;(with_reducible repeat (first|apply bN|apply bD|apply bA));refine blk_put (cs:=#[.int .i64 0,.int .i64 0]) ?_ 0 _ rfl;(with_reducible repeat (first|apply bN|apply bD|apply bA));exact BK541.out⟩,⟨by (with_reducible repeat (first|apply bN|apply bD|apply bA));refine blk_put (cs:=#[.int .i64 t538,.int .i64 0]) ?_ 1 _ rfl;(with_reducible repeat (first|apply bN|apply bD|apply bA));refine blk_put (cs:=#[.int .i64 0,.int .i64 0]) ?_ 0 _ rfl;(with_reducible repeat (first|apply bN|apply bD|apply bA));refine blk_far ?_ NB542_541.out _;(with_reducible repeat (first|apply bN|apply bD|apply bA));refine blk_far ?_ NB542_541.out _;(with_reducible repeat (first|apply bN|apply bD|apply bA));exact BK542.out⟩,⟨by repeat (first|(with_reducible first|exact HB.out|apply lA|apply lN|apply lD|refine lS ?_ GE527.out|refine lS ?_ GE535.out|refine lS ?_ GE541.out|refine lS ?_ GE542.out)|exact HB.out)⟩⟩
       ·rw [if_neg c32] at H
        have c32b0 : decide (1000000 < t538) = false:=decide_eq_false c32
        clear c32
        have H':=am H
        clear H
        have hnb37:=NB542_527.out
        have hnc37:=NB527_542.out
        have hnb38:=NB542_535.out
        have hnc38:=NB535_542.out
        have hnb39:=NB542_541.out
        have hnc39:=NB541_542.out
        have hcz40_0 : w23.cell? ⟨gb542,0,none⟩ = some (.int .i64 0):=(blk_cell BK542.out 0).trans rfl
        have hcz40_1 : w23.cell? ⟨gb542,1,none⟩ = some (.int .i64 0):=(blk_cell BK542.out 1).trans rfl
        have hfz40_0:=blk_frozen BK542.out 0
        have hfz40_1:=blk_frozen BK542.out 1
        go_wp2
        go_meet
        case rel=>exact ⟨_,(decide (t539 > 1000000)),(by first|rfl|(simp;done)|(simp [*];done)),H',⟨by first|omega|exact Nat.le_refl _⟩,⟨by (with_reducible repeat (first|apply rA|apply rN|apply rD));exact Kd.R_mono (Kd.R_far (p:=⟨gb542,1,none⟩) (Kd.R_far (p:=⟨gb542,0,none⟩) (Kd.R_far (p:=⟨gb541,1,none⟩) (Kd.R_far (p:=⟨gb541,0,none⟩) (Kd.R_mono (Kd.R_mono HO533.out (fun k_ hk=>(⟨hk,hk.1.2⟩ : _ ∧ k_ ≠ gb541))) (fun k_ hk=>(⟨hk,hk.1.2⟩ : _ ∧ k_ ≠ gb542))) (fun _ hk=>hk.1.2) (.int .i64 t536)) (fun _ hk=>hk.1.2) (.int .i64 t537)) (fun _ hk=>hk.2) (.int .i64 t538)) (fun _ hk=>hk.2) (.int .i64 t539)) (fun _ hk=>⟨hk.1.1.1.2,hk.1.1.2⟩)⟩,⟨by (with_reducible repeat (first|apply bN|apply bD|apply bA));refine blk_far ?_ NB527_542.out _;(with_reducible repeat (first|apply bN|apply bD|apply bA));refine blk_far ?_ NB527_542.out _;(with_reducible repeat (first|apply bN|apply bD|apply bA));refine blk_far ?_ NB527_541.out _;(with_reducible repeat (first|apply bN|apply bD|apply bA));refine blk_far ?_ NB527_541.out _;(with_reducible repeat (first|apply bN|apply bD|apply bA));exact BK527.out⟩,⟨by (with_reducible repeat (first|apply bN|apply bD|apply bA));refine blk_far ?_ NB535_542.out _;(with_reducible repeat (first|apply bN|apply bD|apply bA));refine blk_far ?_ NB535_542.out _;(with_reducible repeat (first|apply bN|apply bD|apply bA));refine blk_far ?_ NB535_541.out _;(with_reducible repeat (first|apply bN|apply bD|apply bA));refine blk_far ?_ NB535_541.out _;(with_reducible repeat (first|apply bN|apply bD|apply bA));exact BK535.out⟩,⟨by (with_reducible repeat (first|apply bN|apply bD|apply bA));refine blk_far ?_ NB541_542.out _;(with_reducible repeat (first|apply bN|apply bD|apply bA));refine blk_far ?_ NB541_542.out _;(with_reducible repeat (first|apply bN|apply bD|apply bA));refine blk_put (cs:=#[.int .i64 t536,.int .i64 0]) ?_ 1 _ rfl;(with_reducible repeat (first|apply bN|apply bD|apply bA));refine blk_put (cs:=#[.int .i64 0,.int .i64 0]) ?_ 0 _ rfl;(with_reducible repeat (first|apply bN|apply bD|apply bA));exact BK541.out⟩,⟨by (with_reducible repeat (first|apply bN|apply bD|apply bA));refine blk_put (cs:=#[.int .i64 t538,.int .i64 0]) ?_ 1 _ rfl;(with_reducible repeat (first|apply bN|apply bD|apply bA));refine blk_put (cs:=#[.int .i64 0,.int .i64 0]) ?_ 0 _ rfl;(with_reducible repeat (first|apply bN|apply bD|apply bA));refine blk_far ?_ NB542_541.out _;(with_reducible repeat (first|apply bN|apply bD|apply bA));refine blk_far ?_ NB542_541.out _;(with_reducible repeat (first|apply bN|apply bD|apply bA));exact BK542.out⟩,⟨by repeat (first|(with_reducible first|exact HB.out|apply lA|apply lN|apply lD|refine lS ?_ GE527.out|refine lS ?_ GE535.out|refine lS ?_ GE541.out|refine lS ?_ GE542.out)|exact HB.out)⟩⟩
      ·rw [if_neg c31] at H
       have c31b0 : (t540 == 0) = false:=beq_eq_false_iff_ne.mpr c31
       have c31b1 : (t540 != 0) = true:=bne_iff_ne.mpr c31
       (first|rw [c31b0]|(simp only [i64_w,i32_w];rw [c31b0])|skip)
       have H':=am H
       clear H
       go_wp2
       go_meet
       case rel=>exact ⟨_,(true),(by first|rfl|(simp;done)|(simp [*];done)),H',⟨by first|omega|exact Nat.le_refl _⟩,⟨by (with_reducible repeat (first|apply rA|apply rN|apply rD));exact Kd.R_mono (Kd.R_far (p:=⟨gb542,1,none⟩) (Kd.R_far (p:=⟨gb542,0,none⟩) (Kd.R_far (p:=⟨gb541,1,none⟩) (Kd.R_far (p:=⟨gb541,0,none⟩) (Kd.R_mono (Kd.R_mono HO533.out (fun k_ hk=>(⟨hk,hk.1.2⟩ : _ ∧ k_ ≠ gb541))) (fun k_ hk=>(⟨hk,hk.1.2⟩ : _ ∧ k_ ≠ gb542))) (fun _ hk=>hk.1.2) (.int .i64 t536)) (fun _ hk=>hk.1.2) (.int .i64 t537)) (fun _ hk=>hk.2) (.int .i64 t538)) (fun _ hk=>hk.2) (.int .i64 t539)) (fun _ hk=>⟨hk.1.1.1.2,hk.1.1.2⟩)⟩,⟨by (with_reducible repeat (first|apply bN|apply bD|apply bA));refine blk_far ?_ NB527_542.out _;(with_reducible repeat (first|apply bN|apply bD|apply bA));refine blk_far ?_ NB527_542.out _;(with_reducible repeat (first|apply bN|apply bD|apply bA));refine blk_far ?_ NB527_541.out _;(with_reducible repeat (first|apply bN|apply bD|apply bA));refine blk_far ?_ NB527_541.out _;(with_reducible repeat (first|apply bN|apply bD|apply bA));exact BK527.out⟩,⟨by (with_reducible repeat (first|apply bN|apply bD|apply bA));refine blk_far ?_ NB535_542.out _;(with_reducible repeat (first|apply bN|apply bD|apply bA));refine blk_far ?_ NB535_542.out _;(with_reducible repeat (first|apply bN|apply bD|apply bA));refine blk_far ?_ NB535_541.out _;(with_reducible repeat (first|apply bN|apply bD|apply bA));refine blk_far ?_ NB535_541.out _;(with_reducible repeat (first|apply bN|apply bD|apply bA));exact BK535.out⟩,⟨by (with_reducible repeat (first|apply bN|apply bD|apply bA));refine blk_far ?_ NB541_542.out _;(with_reducible repeat (first|apply bN|apply bD|apply bA));refine blk_far ?_ NB541_542.out _;(with_reducible repeat (first|apply bN|apply bD|apply bA));refine blk_put (cs:=#[.int .i64 t536,.int .i64 0]) ?_ 1 _ rfl;(with_reducible repeat (first|apply bN|apply bD|apply bA));refine blk_put (cs:=#[.int .i64 0,.int .i64 0]) ?_ 0 _ rfl;(with_reducible repeat (first|apply bN|apply bD|apply bA));exact BK541.out⟩,⟨by (with_reducible repeat (first|apply bN|apply bD|apply bA));refine blk_put (cs:=#[.int .i64 t538,.int .i64 0]) ?_ 1 _ rfl;(with_reducible repeat (first|apply bN|apply bD|apply bA));refine blk_put (cs:=#[.int .i64 0,.int .i64 0]) ?_ 0 _ rfl;(with_reducible repeat (first|apply bN|apply bD|apply bA));refine blk_far ?_ NB542_541.out _;(with_reducible repeat (first|apply bN|apply bD|apply bA));refine blk_far ?_ NB542_541.out _;(with_reducible repeat (first|apply bN|apply bD|apply bA));exact BK542.out⟩,⟨by repeat (first|(with_reducible first|exact HB.out|apply lA|apply lN|apply lD|refine lS ?_ GE527.out|refine lS ?_ GE535.out|refine lS ?_ GE541.out|refine lS ?_ GE542.out)|exact HB.out)⟩⟩
    case rest =>
     as_aux_lemma =>
      clear HC9
      try clear c1
      try clear c2
      try clear p2
      try clear c3
      try clear c5
      try clear c7
      try clear c7b0
      try clear c7b1
      try clear c11
      try clear c12
      try clear c14
      try clear c17
      try clear c20
      try clear c24
      try clear c25
      try clear c26
      try clear c28
      try clear c29
      try clear c31
      try clear c31b0
      try clear c31b1
      try clear c32
      try clear c32b0
      try clear c33
      try clear c34
      try clear c35
      try clear c37
      try clear c38
      try clear c39
      try clear hcz12_0
      try clear hcz12_1
      try clear hcz14_0
      try clear hcz14_1
      try clear hcz18_0
      try clear hcz18_1
      try clear hcz20_0
      try clear hcz20_1
      try clear hcz27_0
      try clear hcz27_1
      try clear hcz30_0
      try clear hcz30_1
      try clear hcz36_0
      try clear hcz36_1
      try clear hcz40_0
      try clear hcz40_1
      try clear hfz12_0
      try clear hfz12_1
      try clear hfz14_0
      try clear hfz14_1
      try clear hfz18_0
      try clear hfz18_1
      try clear hfz20_0
      try clear hfz20_1
      try clear hfz27_0
      try clear hfz27_1
      try clear hfz30_0
      try clear hfz30_1
      try clear hfz36_0
      try clear hfz36_1
      try clear hfz40_0
      try clear hfz40_1
      obtain ⟨kq,x59_8,rfl,HA,HJ8,HO_536001,BK527,BK535,BK541,BK542,HB⟩ := hcut
      cases kq with
      | zero=>exact absurd HA.out (by simp [gangsawlaw39_ProfileMirrored.j0])
      | succ kj8 =>
       have H:=HA.out
       clear HA
       simp only [gangsawlaw39_ProfileMirrored.j0] at H
       by_cases c41 : x59_8 = true
       ·subst c41
        have H1 : (if t540 = 0 then (some (decide (t536 ≥ (-1000000)))) else (none)) = some r:=by rw [if_pos rfl] at H;exact H
        clear H
        have H:=H1
        clear H1
        by_cases c42 : t540 = 0
        ·rw [if_pos c42] at H
         have c42b0 : (t540 == 0) = true:=beq_iff_eq.mpr c42
         have c42b1 : (t540 != 0) = false:=bne_eq_false_iff_eq.mpr c42
         clear c42
         obtain rfl:=Option.some.inj H
         have hnb43:=NB541_527.out
         have hnc43:=NB527_541.out
         have hnb44:=NB541_535.out
         have hnc44:=NB535_541.out
         have hnb45:=NB541_542.out
         have hnc45:=NB542_541.out
         have hcz46_0 : wc.cell? ⟨gb541,0,none⟩ = some (.int .i64 t536):=(blk_cell BK541.out 0).trans rfl
         have hcz46_1 : wc.cell? ⟨gb541,1,none⟩ = some (.int .i64 t537):=(blk_cell BK541.out 1).trans rfl
         have hfz46_0:=blk_frozen BK541.out 0
         have hfz46_1:=blk_frozen BK541.out 1
         go_wp2
         go_ret
         exact ⟨by first|rfl|(simp [errW_none,errW_some] <;> rfl)|(simp [*,errW_none,errW_some] <;> rfl),by repeat (first|(with_reducible first|exact HB.out|apply lA|apply lN|apply lD|refine lS ?_ GE527.out|refine lS ?_ GE535.out|refine lS ?_ GE541.out|refine lS ?_ GE542.out)|exact HB.out)⟩
        ·rw [if_neg c42] at H
         exact absurd H (by simp)
       ·replace c41:=Bool.eq_false_iff.mpr c41
        subst c41
        have H1 : ((profile_Mirror.f kj8 a0_0 l0_1).bind fun bt543=>((profile_Canonical.f kj8 t530 t531).bind fun bt549=>((profile_Mirror.f kj8 bt543.1 bt543.2.1).bind fun bt555=>(if bt543.2.2 = 0 then (if bt549.2.2 = 0 then (if bt555.2.2 = 0 then ((gangsawlaw39_same.f kj8 t530 t531 bt549.1 bt549.2.1).bind fun t561=>(if t561 = true then ((gangsawlaw39_same.f kj8 t530 t531 bt555.1 bt555.2.1).bind fun t562=>(gangsawlaw39_ProfileMirrored.j1 kj8 (!t562) a0_0 l0_1 t530 t531 bt543.1 bt543.2.1)) else (gangsawlaw39_ProfileMirrored.j1 kj8 true a0_0 l0_1 t530 t531 bt543.1 bt543.2.1))) else (gangsawlaw39_ProfileMirrored.j1 kj8 true a0_0 l0_1 t530 t531 bt543.1 bt543.2.1)) else (gangsawlaw39_ProfileMirrored.j1 kj8 true a0_0 l0_1 t530 t531 bt543.1 bt543.2.1)) else (gangsawlaw39_ProfileMirrored.j1 kj8 true a0_0 l0_1 t530 t531 bt543.1 bt543.2.1))))) = some r:=by rw [if_neg (show ¬ (false = true) by decide)] at H;exact H
        clear H
        have H:=H1
        clear H1
        replace H:=Option.bind_eq_some_iff.mp H
        obtain ⟨⟨t543,t544,t547⟩,A470,H⟩ := H
        replace H : ((profile_Canonical.f kj8 t530 t531).bind fun bt549=>((profile_Mirror.f kj8 t543 t544).bind fun bt555=>(if t547 = 0 then (if bt549.2.2 = 0 then (if bt555.2.2 = 0 then ((gangsawlaw39_same.f kj8 t530 t531 bt549.1 bt549.2.1).bind fun t561=>(if t561 = true then ((gangsawlaw39_same.f kj8 t530 t531 bt555.1 bt555.2.1).bind fun t562=>(gangsawlaw39_ProfileMirrored.j1 kj8 (!t562) a0_0 l0_1 t530 t531 t543 t544)) else (gangsawlaw39_ProfileMirrored.j1 kj8 true a0_0 l0_1 t530 t531 t543 t544))) else (gangsawlaw39_ProfileMirrored.j1 kj8 true a0_0 l0_1 t530 t531 t543 t544)) else (gangsawlaw39_ProfileMirrored.j1 kj8 true a0_0 l0_1 t530 t531 t543 t544)) else (gangsawlaw39_ProfileMirrored.j1 kj8 true a0_0 l0_1 t530 t531 t543 t544)))) = some r:=H
        have A47:=am A470
        clear A470
        replace H:=Option.bind_eq_some_iff.mp H
        obtain ⟨⟨t549,t550,t553⟩,A480,H⟩ := H
        replace H : ((profile_Mirror.f kj8 t543 t544).bind fun bt555=>(if t547 = 0 then (if t553 = 0 then (if bt555.2.2 = 0 then ((gangsawlaw39_same.f kj8 t530 t531 t549 t550).bind fun t561=>(if t561 = true then ((gangsawlaw39_same.f kj8 t530 t531 bt555.1 bt555.2.1).bind fun t562=>(gangsawlaw39_ProfileMirrored.j1 kj8 (!t562) a0_0 l0_1 t530 t531 t543 t544)) else (gangsawlaw39_ProfileMirrored.j1 kj8 true a0_0 l0_1 t530 t531 t543 t544))) else (gangsawlaw39_ProfileMirrored.j1 kj8 true a0_0 l0_1 t530 t531 t543 t544)) else (gangsawlaw39_ProfileMirrored.j1 kj8 true a0_0 l0_1 t530 t531 t543 t544)) else (gangsawlaw39_ProfileMirrored.j1 kj8 true a0_0 l0_1 t530 t531 t543 t544))) = some r:=H
        have A48:=am A480
        clear A480
        replace H:=Option.bind_eq_some_iff.mp H
        obtain ⟨⟨t555,t556,t559⟩,A490,H⟩ := H
        replace H : (if t547 = 0 then (if t553 = 0 then (if t559 = 0 then ((gangsawlaw39_same.f kj8 t530 t531 t549 t550).bind fun t561=>(if t561 = true then ((gangsawlaw39_same.f kj8 t530 t531 t555 t556).bind fun t562=>(gangsawlaw39_ProfileMirrored.j1 kj8 (!t562) a0_0 l0_1 t530 t531 t543 t544)) else (gangsawlaw39_ProfileMirrored.j1 kj8 true a0_0 l0_1 t530 t531 t543 t544))) else (gangsawlaw39_ProfileMirrored.j1 kj8 true a0_0 l0_1 t530 t531 t543 t544)) else (gangsawlaw39_ProfileMirrored.j1 kj8 true a0_0 l0_1 t530 t531 t543 t544)) else (gangsawlaw39_ProfileMirrored.j1 kj8 true a0_0 l0_1 t530 t531 t543 t544)) = some r:=H
        have A49:=am A490
        clear A490
        have HC50:=am H
        clear H
        have hnb51:=NB527_535.out
        have hnc51:=NB535_527.out
        have hnb52:=NB527_541.out
        have hnc52:=NB541_527.out
        have hnb53:=NB527_542.out
        have hnc53:=NB542_527.out
        have hcz54_0 : wc.cell? ⟨gb527,0,none⟩ = some (.string a0_0):=(blk_cell BK527.out 0).trans rfl
        have hcz54_1 : wc.cell? ⟨gb527,1,none⟩ = some (.slice A0_1 l0_1.length c0_1):=(blk_cell BK527.out 1).trans rfl
        have hfz54_0:=blk_frozen BK527.out 0
        have hfz54_1:=blk_frozen BK527.out 1
        go_upto_region 14 with (first|((with_reducible refine gate_callee (f:=21) rfl ?_);refine goesL_ (some 69) rfl rfl Try.func21 (by kernel_rfl) rfl #[.agg #[.string a0_0,.slice A0_1 l0_1.length c0_1]] rfl (by (try simp only [mT,mC,mN]);first|done|rfl|(simp only [lDr,lTk];rfl)) ?_;(with_reducible refine (profile_Mirror.calls kj8 a0_0 _ _ l0_1 t543 t544 t547 _ ?side1 ?side2 A47.out).mono ?_);(case side1=>repeat (first|exact (kB HR0_1.out HB.out)|(with_reducible first|apply kA|apply kN|apply kD)));(case side2=>exact HC0_1.out);rintro e w55 ⟨v545,rfl,ho0,hb⟩;refine ⟨_,rfl, ?_⟩;have n0_:=am (Kd.R_elder' (by (with_reducible repeat (first|apply rA|apply rN|apply rD));exact HO_536001.out) (Kd.R_base ho0) hb);have n1_:=am (Kd.R_lower (Kd.R_newB (Kd.R_newB (Kd.R_new' ho0 (Kd.R_lt (by (with_reducible repeat (first|apply rA|apply rN|apply rD));exact HO_536001.out))) (g:=gb541) (o:=.cells #[.int .i64 t536,.int .i64 t537] 31 (0,0)) (by (with_reducible repeat (first|apply bN|apply bD|apply bA));exact BK541.out)) (g:=gb542) (o:=.cells #[.int .i64 t538,.int .i64 t539] 31 (0,0)) (by (with_reducible repeat (first|apply bN|apply bD|apply bA));exact BK542.out)) (below_size (by repeat (first|(with_reducible first|exact HB.out|apply lA|apply lN|apply lD|refine lS ?_ GE527.out|refine lS ?_ GE535.out|refine lS ?_ GE541.out|refine lS ?_ GE542.out)|exact HB.out))));have n2_:=am (blk_below (g:=gb527) (o:=.cells #[.string a0_0,.slice A0_1 l0_1.length c0_1] 25 (0,0)) (by (with_reducible repeat (first|apply bN|apply bD|apply bA));exact BK527.out) hb);have n3_:=am (blk_below (g:=gb535) (o:=.cells #[.string t530,.slice Ao19 t531.length co19] 25 (0,0)) (by (with_reducible repeat (first|apply bN|apply bD|apply bA));exact BK535.out) hb);have n4_:=am (blk_below (g:=gb541) (o:=.cells #[.int .i64 t536,.int .i64 t537] 31 (0,0)) (by (with_reducible repeat (first|apply bN|apply bD|apply bA));exact BK541.out) hb);have n5_:=am (blk_below (g:=gb542) (o:=.cells #[.int .i64 t538,.int .i64 t539] 31 (0,0)) (by (with_reducible repeat (first|apply bN|apply bD|apply bA));exact BK542.out) hb);have n6_:=am (below_step (by repeat (first|(with_reducible first|exact HB.out|apply lA|apply lN|apply lD|refine lS ?_ GE527.out|refine lS ?_ GE535.out|refine lS ?_ GE541.out|refine lS ?_ GE542.out)|exact HB.out)) hb);clear HO_536001;clear BK527;clear BK535;clear BK541;clear BK542;clear HB;have HO_536001:=n0_;have HO546:=n1_;have BK527:=n2_;have BK535:=n3_;have BK541:=n4_;have BK542:=n5_;have HB:=n6_;clear n0_ n1_ n2_ n3_ n4_ n5_ n6_;(try clear hb);(try clear hb2);(try clear hk);(try clear hi);(try clear ho0))|((with_reducible refine gate_dst (N:=8) rfl ?_);refine box_event ?hg (N:=8) ?hd (cs:=#[.string (⟨#[]⟩ : ByteArray),.slice none 0 0]) (t:=25) ?hr ?_;(case hd=>rfl);(case hg=>rfl);(case hr=>first|(go_simp;done)|(go_simp;rfl));intro gb548 hg w56 hbox hb;have n0_:=am (Kd.R_below (by (with_reducible repeat (first|apply rA|apply rN|apply rD));exact HO_536001.out) hb);have n1_:=am (Kd.R_below (by (with_reducible repeat (first|apply rA|apply rN|apply rD));exact HO546.out) hb);have n2_:=am (blk_below (g:=gb527) (o:=.cells #[.string a0_0,.slice A0_1 l0_1.length c0_1] 25 (0,0)) (by (with_reducible repeat (first|apply bN|apply bD|apply bA));exact BK527.out) hb);have n3_:=am (blk_below (g:=gb535) (o:=.cells #[.string t530,.slice Ao19 t531.length co19] 25 (0,0)) (by (with_reducible repeat (first|apply bN|apply bD|apply bA));exact BK535.out) hb);have n4_:=am (blk_below (g:=gb541) (o:=.cells #[.int .i64 t536,.int .i64 t537] 31 (0,0)) (by (with_reducible repeat (first|apply bN|apply bD|apply bA));exact BK541.out) hb);have n5_:=am (blk_below (g:=gb542) (o:=.cells #[.int .i64 t538,.int .i64 t539] 31 (0,0)) (by (with_reducible repeat (first|apply bN|apply bD|apply bA));exact BK542.out) hb);have n6_:=am (below_step (by repeat (first|(with_reducible first|exact HB.out|apply lA|apply lN|apply lD|refine lS ?_ GE527.out|refine lS ?_ GE535.out|refine lS ?_ GE541.out|refine lS ?_ GE542.out)|exact HB.out)) hb);have n7_:=am (hbox);have n8_:=am ((by rw [hg];exact (below_size (by repeat (first|(with_reducible first|exact HB.out|apply lA|apply lN|apply lD|refine lS ?_ GE527.out|refine lS ?_ GE535.out|refine lS ?_ GE541.out|refine lS ?_ GE542.out)|exact HB.out))) : w.heap.size ≤ gb548));have n9_:=am ((by rw [hg];exact (below_size (by repeat (first|(with_reducible first|exact HB.out|apply lA|apply lN|apply lD|refine lS ?_ GE527.out|refine lS ?_ GE535.out|refine lS ?_ GE541.out|refine lS ?_ GE542.out)|exact HB.out))) : w.heap.size ≤ gb548));have n10_:=am ((by rw [hg];exact Nat.ne_of_lt (blk_lt (g:=gb527) (o:=.cells #[.string a0_0,.slice A0_1 l0_1.length c0_1] 25 (0,0)) (by (with_reducible repeat (first|apply bN|apply bD|apply bA));exact BK527.out)) : gb527 ≠ gb548));have n11_:=am ((by rw [hg];exact Nat.ne_of_gt (blk_lt (g:=gb527) (o:=.cells #[.string a0_0,.slice A0_1 l0_1.length c0_1] 25 (0,0)) (by (with_reducible repeat (first|apply bN|apply bD|apply bA));exact BK527.out)) : gb548 ≠ gb527));have n12_:=am ((by rw [hg];exact Nat.ne_of_lt (blk_lt (g:=gb535) (o:=.cells #[.string t530,.slice Ao19 t531.length co19] 25 (0,0)) (by (with_reducible repeat (first|apply bN|apply bD|apply bA));exact BK535.out)) : gb535 ≠ gb548));have n13_:=am ((by rw [hg];exact Nat.ne_of_gt (blk_lt (g:=gb535) (o:=.cells #[.string t530,.slice Ao19 t531.length co19] 25 (0,0)) (by (with_reducible repeat (first|apply bN|apply bD|apply bA));exact BK535.out)) : gb548 ≠ gb535));have n14_:=am ((by rw [hg];exact Nat.ne_of_lt (blk_lt (g:=gb541) (o:=.cells #[.int .i64 t536,.int .i64 t537] 31 (0,0)) (by (with_reducible repeat (first|apply bN|apply bD|apply bA));exact BK541.out)) : gb541 ≠ gb548));have n15_:=am ((by rw [hg];exact Nat.ne_of_gt (blk_lt (g:=gb541) (o:=.cells #[.int .i64 t536,.int .i64 t537] 31 (0,0)) (by (with_reducible repeat (first|apply bN|apply bD|apply bA));exact BK541.out)) : gb548 ≠ gb541));have n16_:=am ((by rw [hg];exact Nat.ne_of_lt (blk_lt (g:=gb542) (o:=.cells #[.int .i64 t538,.int .i64 t539] 31 (0,0)) (by (with_reducible repeat (first|apply bN|apply bD|apply bA));exact BK542.out)) : gb542 ≠ gb548));have n17_:=am ((by rw [hg];exact Nat.ne_of_gt (blk_lt (g:=gb542) (o:=.cells #[.int .i64 t538,.int .i64 t539] 31 (0,0)) (by (with_reducible repeat (first|apply bN|apply bD|apply bA));exact BK542.out)) : gb548 ≠ gb542));clear HO_536001;clear HO546;clear BK527;clear BK535;clear BK541;clear BK542;clear HB;have HO_536001:=n0_;have HO546:=n1_;have BK527:=n2_;have BK535:=n3_;have BK541:=n4_;have BK542:=n5_;have HB:=n6_;have BK548:=n7_;have GW548:=n8_;have GE548:=n9_;have NB527_548:=n10_;have NB548_527:=n11_;have NB535_548:=n12_;have NB548_535:=n13_;have NB541_548:=n14_;have NB548_541:=n15_;have NB542_548:=n16_;have NB548_542:=n17_;clear n0_ n1_ n2_ n3_ n4_ n5_ n6_ n7_ n8_ n9_ n10_ n11_ n12_ n13_ n14_ n15_ n16_ n17_;clear hb hbox hg;have hnb57:=NB548_527.out;have hnc57:=NB527_548.out;have hnb58:=NB548_535.out;have hnc58:=NB535_548.out;have hnb59:=NB548_541.out;have hnc59:=NB541_548.out;have hnb60:=NB548_542.out;have hnc60:=NB542_548.out;have hcz61_0 : w56.cell? ⟨gb548,0,none⟩ = some (.string (⟨#[]⟩ : ByteArray)):=(blk_cell BK548.out 0).trans rfl;have hcz61_1 : w56.cell? ⟨gb548,1,none⟩ = some (.slice none 0 0):=(blk_cell BK548.out 1).trans rfl;have hfz61_0:=blk_frozen BK548.out 0;have hfz61_1:=blk_frozen BK548.out 1;obtain ⟨Ao62,co62,eo62⟩ := Kd.R_slice HO546.out;subst eo62;have hnb63:=NB535_541.out;have hnc63:=NB541_535.out;have hnb64:=NB535_542.out;have hnc64:=NB542_535.out;have hcz65_0 : w56.cell? ⟨gb535,0,none⟩ = some (.string t530):=(blk_cell BK535.out 0).trans rfl;have hcz65_1 : w56.cell? ⟨gb535,1,none⟩ = some (.slice Ao19 t531.length co19):=(blk_cell BK535.out 1).trans rfl;have hfz65_0:=blk_frozen BK535.out 0;have hfz65_1:=blk_frozen BK535.out 1)|((with_reducible refine gate_callee (f:=20) rfl ?_);refine goesL_ (some 74) rfl rfl Try.func20 (by kernel_rfl) rfl #[.agg #[.string t530,.slice Ao19 t531.length co19]] rfl (by (try simp only [mT,mC,mN]);first|done|rfl|(simp only [lDr,lTk];rfl)) ?_;(with_reducible refine (profile_Canonical.calls kj8 t530 _ _ t531 t549 t550 t553 _ ?side1 ?side2 A48.out).mono ?_);(case side1=>refine (Kd.R_reads' (e:=31) (base:=w.heap.size) (ok:=fun k_=>((k_ ≠ gb541 ∧ k_ ≠ gb542) ∧ some k_ ≠ (.slice Ao62 t544.length co62 : Value).ownBlock)) (n:=t531.length) (c:=co19) ?_).2.2;exact (by (with_reducible repeat (first|apply rA|apply rN|apply rD));exact (Kd.R_mono (Kd.R_far (p:=⟨gb548,1,none⟩) (Kd.R_far (p:=⟨gb548,0,none⟩) (Kd.R_types HO_536001.out BK548.out (by decide)) (fun _ hk=>hk.2) (.string t543)) (fun _ hk=>hk.2) (.slice Ao62 t544.length co62)) (fun _ h_=>h_.1))));(case side2=>exact (Kd.R_reads' HO_536001.out).2.1);rintro e w66 ⟨v551,rfl,ho0,hb⟩;refine ⟨_,rfl, ?_⟩;have n0_:=am (Kd.R_elder' (by (with_reducible repeat (first|apply rA|apply rN|apply rD));exact (Kd.R_mono (Kd.R_far (p:=⟨gb548,1,none⟩) (Kd.R_far (p:=⟨gb548,0,none⟩) (Kd.R_types HO_536001.out BK548.out (by decide)) (fun _ hk=>hk.2) (.string t543)) (fun _ hk=>hk.2) (.slice Ao62 t544.length co62)) (fun _ h_=>h_.1))) (Kd.R_base ho0) hb);have n1_:=am (Kd.R_elder' (by (with_reducible repeat (first|apply rA|apply rN|apply rD));exact (Kd.R_mono (Kd.R_far (p:=⟨gb548,1,none⟩) (Kd.R_far (p:=⟨gb548,0,none⟩) (Kd.R_types HO546.out BK548.out (by decide)) (fun _ hk=>hk.2) (.string t543)) (fun _ hk=>hk.2) (.slice Ao62 t544.length co62)) (fun _ h_=>h_.1))) (Kd.R_base ho0) hb);have n2_:=am (Kd.R_lower (Kd.R_newB (Kd.R_newB (Kd.R_new' (Kd.R_new' ho0 (Kd.R_lt (by (with_reducible repeat (first|apply rA|apply rN|apply rD));exact (Kd.R_mono (Kd.R_far (p:=⟨gb548,1,none⟩) (Kd.R_far (p:=⟨gb548,0,none⟩) (Kd.R_types HO_536001.out BK548.out (by decide)) (fun _ hk=>hk.2) (.string t543)) (fun _ hk=>hk.2) (.slice Ao62 t544.length co62)) (fun _ h_=>h_.1))))) (Kd.R_lt (by (with_reducible repeat (first|apply rA|apply rN|apply rD));exact (Kd.R_mono (Kd.R_far (p:=⟨gb548,1,none⟩) (Kd.R_far (p:=⟨gb548,0,none⟩) (Kd.R_types HO546.out BK548.out (by decide)) (fun _ hk=>hk.2) (.string t543)) (fun _ hk=>hk.2) (.slice Ao62 t544.length co62)) (fun _ h_=>h_.1))))) (g:=gb541) (o:=.cells #[.int .i64 t536,.int .i64 t537] 31 (0,0)) (by (with_reducible repeat (first|apply bN|apply bD|apply bA));refine blk_far ?_ NB541_548.out _;(with_reducible repeat (first|apply bN|apply bD|apply bA));refine blk_far ?_ NB541_548.out _;(with_reducible repeat (first|apply bN|apply bD|apply bA));exact BK541.out)) (g:=gb542) (o:=.cells #[.int .i64 t538,.int .i64 t539] 31 (0,0)) (by (with_reducible repeat (first|apply bN|apply bD|apply bA));refine blk_far ?_ NB542_548.out _;(with_reducible repeat (first|apply bN|apply bD|apply bA));refine blk_far ?_ NB542_548.out _;(with_reducible repeat (first|apply bN|apply bD|apply bA));exact BK542.out)) (below_size (by repeat (first|(with_reducible first|exact HB.out|apply lA|apply lN|apply lD|refine lS ?_ GE527.out|refine lS ?_ GE535.out|refine lS ?_ GE541.out|refine lS ?_ GE542.out|refine lS ?_ GE548.out)|exact HB.out))));have n3_:=am (blk_below (g:=gb527) (o:=.cells #[.string a0_0,.slice A0_1 l0_1.length c0_1] 25 (0,0)) (by (with_reducible repeat (first|apply bN|apply bD|apply bA));refine blk_far ?_ NB527_548.out _;(with_reducible repeat (first|apply bN|apply bD|apply bA));refine blk_far ?_ NB527_548.out _;(with_reducible repeat (first|apply bN|apply bD|apply bA));exact BK527.out) hb);have n4_:=am (blk_below (g:=gb535) (o:=.cells #[.string t530,.slice Ao19 t531.length co19] 25 (0,0)) (by (with_reducible repeat (first|apply bN|apply bD|apply bA));refine blk_far ?_ NB535_548.out _;(with_reducible repeat (first|apply bN|apply bD|apply bA));refine blk_far ?_ NB535_548.out _;(with_reducible repeat (first|apply bN|apply bD|apply bA));exact BK535.out) hb);have n5_:=am (blk_below (g:=gb541) (o:=.cells #[.int .i64 t536,.int .i64 t537] 31 (0,0)) (by (with_reducible repeat (first|apply bN|apply bD|apply bA));refine blk_far ?_ NB541_548.out _;(with_reducible repeat (first|apply bN|apply bD|apply bA));refine blk_far ?_ NB541_548.out _;(with_reducible repeat (first|apply bN|apply bD|apply bA));exact BK541.out) hb);have n6_:=am (blk_below (g:=gb542) (o:=.cells #[.int .i64 t538,.int .i64 t539] 31 (0,0)) (by (with_reducible repeat (first|apply bN|apply bD|apply bA));refine blk_far ?_ NB542_548.out _;(with_reducible repeat (first|apply bN|apply bD|apply bA));refine blk_far ?_ NB542_548.out _;(with_reducible repeat (first|apply bN|apply bD|apply bA));exact BK542.out) hb);have n7_:=am (blk_below (g:=gb548) (o:=.cells #[.string t543,.slice Ao62 t544.length co62] 25 (0,0)) (by (with_reducible repeat (first|apply bN|apply bD|apply bA));refine blk_put (cs:=#[.string t543,.slice none 0 0]) ?_ 1 _ rfl;(with_reducible repeat (first|apply bN|apply bD|apply bA));refine blk_put (cs:=#[.string (⟨#[]⟩ : ByteArray),.slice none 0 0]) ?_ 0 _ rfl;(with_reducible repeat (first|apply bN|apply bD|apply bA));exact BK548.out) hb);have n8_:=am (below_step (by repeat (first|(with_reducible first|exact HB.out|apply lA|apply lN|apply lD|refine lS ?_ GE527.out|refine lS ?_ GE535.out|refine lS ?_ GE541.out|refine lS ?_ GE542.out|refine lS ?_ GE548.out)|exact HB.out)) hb);clear HO_536001;clear HO546;clear BK527;clear BK535;clear BK541;clear BK542;clear BK548;clear HB;have HO_536001:=n0_;have HO546:=n1_;have HO552:=n2_;have BK527:=n3_;have BK535:=n4_;have BK541:=n5_;have BK542:=n6_;have BK548:=n7_;have HB:=n8_;clear n0_ n1_ n2_ n3_ n4_ n5_ n6_ n7_ n8_;(try clear hb);(try clear hb2);(try clear hk);(try clear hi);(try clear ho0))|((with_reducible refine gate_dst (N:=10) rfl ?_);refine box_event ?hg (N:=10) ?hd (cs:=#[.string (⟨#[]⟩ : ByteArray),.slice none 0 0]) (t:=25) ?hr ?_;(case hd=>rfl);(case hg=>rfl);(case hr=>first|(go_simp;done)|(go_simp;rfl));intro gb554 hg w67 hbox hb;have n0_:=am (Kd.R_below (by (with_reducible repeat (first|apply rA|apply rN|apply rD));exact HO_536001.out) hb);have n1_:=am (Kd.R_below (by (with_reducible repeat (first|apply rA|apply rN|apply rD));exact HO546.out) hb);have n2_:=am (Kd.R_below (by (with_reducible repeat (first|apply rA|apply rN|apply rD));exact HO552.out) hb);have n3_:=am (blk_below (g:=gb527) (o:=.cells #[.string a0_0,.slice A0_1 l0_1.length c0_1] 25 (0,0)) (by (with_reducible repeat (first|apply bN|apply bD|apply bA));exact BK527.out) hb);have n4_:=am (blk_below (g:=gb535) (o:=.cells #[.string t530,.slice Ao19 t531.length co19] 25 (0,0)) (by (with_reducible repeat (first|apply bN|apply bD|apply bA));exact BK535.out) hb);have n5_:=am (blk_below (g:=gb541) (o:=.cells #[.int .i64 t536,.int .i64 t537] 31 (0,0)) (by (with_reducible repeat (first|apply bN|apply bD|apply bA));exact BK541.out) hb);have n6_:=am (blk_below (g:=gb542) (o:=.cells #[.int .i64 t538,.int .i64 t539] 31 (0,0)) (by (with_reducible repeat (first|apply bN|apply bD|apply bA));exact BK542.out) hb);have n7_:=am (blk_below (g:=gb548) (o:=.cells #[.string t543,.slice Ao62 t544.length co62] 25 (0,0)) (by (with_reducible repeat (first|apply bN|apply bD|apply bA));exact BK548.out) hb);have n8_:=am (below_step (by repeat (first|(with_reducible first|exact HB.out|apply lA|apply lN|apply lD|refine lS ?_ GE527.out|refine lS ?_ GE535.out|refine lS ?_ GE541.out|refine lS ?_ GE542.out|refine lS ?_ GE548.out)|exact HB.out)) hb);have n9_:=am (hbox);have n10_:=am ((by rw [hg];exact (below_size (by repeat (first|(with_reducible first|exact HB.out|apply lA|apply lN|apply lD|refine lS ?_ GE527.out|refine lS ?_ GE535.out|refine lS ?_ GE541.out|refine lS ?_ GE542.out|refine lS ?_ GE548.out)|exact HB.out))) : w.heap.size ≤ gb554));have n11_:=am ((by rw [hg];exact (below_size (by repeat (first|(with_reducible first|exact HB.out|apply lA|apply lN|apply lD|refine lS ?_ GE527.out|refine lS ?_ GE535.out|refine lS ?_ GE541.out|refine lS ?_ GE542.out|refine lS ?_ GE548.out)|exact HB.out))) : w.heap.size ≤ gb554));have n12_:=am ((by rw [hg];exact Nat.ne_of_lt (blk_lt (g:=gb527) (o:=.cells #[.string a0_0,.slice A0_1 l0_1.length c0_1] 25 (0,0)) (by (with_reducible repeat (first|apply bN|apply bD|apply bA));exact BK527.out)) : gb527 ≠ gb554));have n13_:=am ((by rw [hg];exact Nat.ne_of_gt (blk_lt (g:=gb527) (o:=.cells #[.string a0_0,.slice A0_1 l0_1.length c0_1] 25 (0,0)) (by (with_reducible repeat (first|apply bN|apply bD|apply bA));exact BK527.out)) : gb554 ≠ gb527));have n14_:=am ((by rw [hg];exact Nat.ne_of_lt (blk_lt (g:=gb535) (o:=.cells #[.string t530,.slice Ao19 t531.length co19] 25 (0,0)) (by (with_reducible repeat (first|apply bN|apply bD|apply bA));exact BK535.out)) : gb535 ≠ gb554));have n15_:=am ((by rw [hg];exact Nat.ne_of_gt (blk_lt (g:=gb535) (o:=.cells #[.string t530,.slice Ao19 t531.length co19] 25 (0,0)) (by (with_reducible repeat (first|apply bN|apply bD|apply bA));exact BK535.out)) : gb554 ≠ gb535));have n16_:=am ((by rw [hg];exact Nat.ne_of_lt (blk_lt (g:=gb541) (o:=.cells #[.int .i64 t536,.int .i64 t537] 31 (0,0)) (by (with_reducible repeat (first|apply bN|apply bD|apply bA));exact BK541.out)) : gb541 ≠ gb554));have n17_:=am ((by rw [hg];exact Nat.ne_of_gt (blk_lt (g:=gb541) (o:=.cells #[.int .i64 t536,.int .i64 t537] 31 (0,0)) (by (with_reducible repeat (first|apply bN|apply bD|apply bA));exact BK541.out)) : gb554 ≠ gb541));have n18_:=am ((by rw [hg];exact Nat.ne_of_lt (blk_lt (g:=gb542) (o:=.cells #[.int .i64 t538,.int .i64 t539] 31 (0,0)) (by (with_reducible repeat (first|apply bN|apply bD|apply bA));exact BK542.out)) : gb542 ≠ gb554));have n19_:=am ((by rw [hg];exact Nat.ne_of_gt (blk_lt (g:=gb542) (o:=.cells #[.int .i64 t538,.int .i64 t539] 31 (0,0)) (by (with_reducible repeat (first|apply bN|apply bD|apply bA));exact BK542.out)) : gb554 ≠ gb542));have n20_:=am ((by rw [hg];exact Nat.ne_of_lt (blk_lt (g:=gb548) (o:=.cells #[.string t543,.slice Ao62 t544.length co62] 25 (0,0)) (by (with_reducible repeat (first|apply bN|apply bD|apply bA));exact BK548.out)) : gb548 ≠ gb554));have n21_:=am ((by rw [hg];exact Nat.ne_of_gt (blk_lt (g:=gb548) (o:=.cells #[.string t543,.slice Ao62 t544.length co62] 25 (0,0)) (by (with_reducible repeat (first|apply bN|apply bD|apply bA));exact BK548.out)) : gb554 ≠ gb548));clear HO_536001;clear HO546;clear HO552;clear BK527;clear BK535;clear BK541;clear BK542;clear BK548;clear HB;have HO_536001:=n0_;have HO546:=n1_;have HO552:=n2_;have BK527:=n3_;have BK535:=n4_;have BK541:=n5_;have BK542:=n6_;have BK548:=n7_;have HB:=n8_;have BK554:=n9_;have GW554:=n10_;have GE554:=n11_;have NB527_554:=n12_;have NB554_527:=n13_;have NB535_554:=n14_;have NB554_535:=n15_;have NB541_554:=n16_;have NB554_541:=n17_;have NB542_554:=n18_;have NB554_542:=n19_;have NB548_554:=n20_;have NB554_548:=n21_;clear n0_ n1_ n2_ n3_ n4_ n5_ n6_ n7_ n8_ n9_ n10_ n11_ n12_ n13_ n14_ n15_ n16_ n17_ n18_ n19_ n20_ n21_;clear hb hbox hg;have hnb68:=NB554_527.out;have hnc68:=NB527_554.out;have hnb69:=NB554_535.out;have hnc69:=NB535_554.out;have hnb70:=NB554_541.out;have hnc70:=NB541_554.out;have hnb71:=NB554_542.out;have hnc71:=NB542_554.out;have hnb72:=NB554_548.out;have hnc72:=NB548_554.out;have hcz73_0 : w67.cell? ⟨gb554,0,none⟩ = some (.string (⟨#[]⟩ : ByteArray)):=(blk_cell BK554.out 0).trans rfl;have hcz73_1 : w67.cell? ⟨gb554,1,none⟩ = some (.slice none 0 0):=(blk_cell BK554.out 1).trans rfl;have hfz73_0:=blk_frozen BK554.out 0;have hfz73_1:=blk_frozen BK554.out 1;obtain ⟨Ao74,co74,eo74⟩ := Kd.R_slice HO552.out;subst eo74;have hcz75_0 : w67.cell? ⟨gb548,0,none⟩ = some (.string t543):=(blk_cell BK548.out 0).trans rfl;have hcz75_1 : w67.cell? ⟨gb548,1,none⟩ = some (.slice Ao62 t544.length co62):=(blk_cell BK548.out 1).trans rfl;have hfz75_0:=blk_frozen BK548.out 0;have hfz75_1:=blk_frozen BK548.out 1)|((with_reducible refine gate_callee (f:=21) rfl ?_);refine goesL_ (some 79) rfl rfl Try.func21 (by kernel_rfl) rfl #[.agg #[.string t543,.slice Ao62 t544.length co62]] rfl (by (try simp only [mT,mC,mN]);first|done|rfl|(simp only [lDr,lTk];rfl)) ?_;(with_reducible refine (profile_Mirror.calls kj8 t543 _ _ t544 t555 t556 t559 _ ?side1 ?side2 A49.out).mono ?_);(case side1=>refine (Kd.R_reads' (e:=31) (base:=w.heap.size) (ok:=fun k_=>((((True ∧ some k_ ≠ (.slice Ao19 t531.length co19 : Value).ownBlock) ∧ k_ ≠ gb541) ∧ k_ ≠ gb542) ∧ some k_ ≠ (.slice Ao74 t550.length co74 : Value).ownBlock)) (n:=t544.length) (c:=co62) ?_).2.2;exact (by (with_reducible repeat (first|apply rA|apply rN|apply rD));exact (Kd.R_mono (Kd.R_far (p:=⟨gb554,1,none⟩) (Kd.R_far (p:=⟨gb554,0,none⟩) (Kd.R_types HO546.out BK554.out (by decide)) (fun _ hk=>hk.2) (.string t549)) (fun _ hk=>hk.2) (.slice Ao74 t550.length co74)) (fun _ h_=>h_.1))));(case side2=>exact (Kd.R_reads' HO546.out).2.1);rintro e w76 ⟨v557,rfl,ho0,hb⟩;refine ⟨_,rfl, ?_⟩;have n0_:=am (Kd.R_elder' (by (with_reducible repeat (first|apply rA|apply rN|apply rD));exact (Kd.R_mono (Kd.R_far (p:=⟨gb554,1,none⟩) (Kd.R_far (p:=⟨gb554,0,none⟩) (Kd.R_types HO_536001.out BK554.out (by decide)) (fun _ hk=>hk.2) (.string t549)) (fun _ hk=>hk.2) (.slice Ao74 t550.length co74)) (fun _ h_=>h_.1))) (Kd.R_base ho0) hb);have n1_:=am (Kd.R_elder' (by (with_reducible repeat (first|apply rA|apply rN|apply rD));exact (Kd.R_mono (Kd.R_far (p:=⟨gb554,1,none⟩) (Kd.R_far (p:=⟨gb554,0,none⟩) (Kd.R_types HO546.out BK554.out (by decide)) (fun _ hk=>hk.2) (.string t549)) (fun _ hk=>hk.2) (.slice Ao74 t550.length co74)) (fun _ h_=>h_.1))) (Kd.R_base ho0) hb);have n2_:=am (Kd.R_elder' (by (with_reducible repeat (first|apply rA|apply rN|apply rD));exact (Kd.R_mono (Kd.R_far (p:=⟨gb554,1,none⟩) (Kd.R_far (p:=⟨gb554,0,none⟩) (Kd.R_types HO552.out BK554.out (by decide)) (fun _ hk=>hk.2) (.string t549)) (fun _ hk=>hk.2) (.slice Ao74 t550.length co74)) (fun _ h_=>h_.1))) (Kd.R_base ho0) hb);have n3_:=am (Kd.R_lower (Kd.R_newB (Kd.R_newB (Kd.R_new' (Kd.R_new' (Kd.R_new' ho0 (Kd.R_lt (by (with_reducible repeat (first|apply rA|apply rN|apply rD));exact (Kd.R_mono (Kd.R_far (p:=⟨gb554,1,none⟩) (Kd.R_far (p:=⟨gb554,0,none⟩) (Kd.R_types HO_536001.out BK554.out (by decide)) (fun _ hk=>hk.2) (.string t549)) (fun _ hk=>hk.2) (.slice Ao74 t550.length co74)) (fun _ h_=>h_.1))))) (Kd.R_lt (by (with_reducible repeat (first|apply rA|apply rN|apply rD));exact (Kd.R_mono (Kd.R_far (p:=⟨gb554,1,none⟩) (Kd.R_far (p:=⟨gb554,0,none⟩) (Kd.R_types HO546.out BK554.out (by decide)) (fun _ hk=>hk.2) (.string t549)) (fun _ hk=>hk.2) (.slice Ao74 t550.length co74)) (fun _ h_=>h_.1))))) (Kd.R_lt (by (with_reducible repeat (first|apply rA|apply rN|apply rD));exact (Kd.R_mono (Kd.R_far (p:=⟨gb554,1,none⟩) (Kd.R_far (p:=⟨gb554,0,none⟩) (Kd.R_types HO552.out BK554.out (by decide)) (fun _ hk=>hk.2) (.string t549)) (fun _ hk=>hk.2) (.slice Ao74 t550.length co74)) (fun _ h_=>h_.1))))) (g:=gb541) (o:=.cells #[.int .i64 t536,.int .i64 t537] 31 (0,0)) (by (with_reducible repeat (first|apply bN|apply bD|apply bA));refine blk_far ?_ NB541_554.out _;(with_reducible repeat (first|apply bN|apply bD|apply bA));refine blk_far ?_ NB541_554.out _;(with_reducible repeat (first|apply bN|apply bD|apply bA));exact BK541.out)) (g:=gb542) (o:=.cells #[.int .i64 t538,.int .i64 t539] 31 (0,0)) (by (with_reducible repeat (first|apply bN|apply bD|apply bA));refine blk_far ?_ NB542_554.out _;(with_reducible repeat (first|apply bN|apply bD|apply bA));refine blk_far ?_ NB542_554.out _;(with_reducible repeat (first|apply bN|apply bD|apply bA));exact BK542.out)) (below_size (by repeat (first|(with_reducible first|exact HB.out|apply lA|apply lN|apply lD|refine lS ?_ GE527.out|refine lS ?_ GE535.out|refine lS ?_ GE541.out|refine lS ?_ GE542.out|refine lS ?_ GE548.out|refine lS ?_ GE554.out)|exact HB.out))));have n4_:=am (blk_below (g:=gb527) (o:=.cells #[.string a0_0,.slice A0_1 l0_1.length c0_1] 25 (0,0)) (by (with_reducible repeat (first|apply bN|apply bD|apply bA));refine blk_far ?_ NB527_554.out _;(with_reducible repeat (first|apply bN|apply bD|apply bA));refine blk_far ?_ NB527_554.out _;(with_reducible repeat (first|apply bN|apply bD|apply bA));exact BK527.out) hb);have n5_:=am (blk_below (g:=gb535) (o:=.cells #[.string t530,.slice Ao19 t531.length co19] 25 (0,0)) (by (with_reducible repeat (first|apply bN|apply bD|apply bA));refine blk_far ?_ NB535_554.out _;(with_reducible repeat (first|apply bN|apply bD|apply bA));refine blk_far ?_ NB535_554.out _;(with_reducible repeat (first|apply bN|apply bD|apply bA));exact BK535.out) hb);have n6_:=am (blk_below (g:=gb541) (o:=.cells #[.int .i64 t536,.int .i64 t537] 31 (0,0)) (by (with_reducible repeat (first|apply bN|apply bD|apply bA));refine blk_far ?_ NB541_554.out _;(with_reducible repeat (first|apply bN|apply bD|apply bA));refine blk_far ?_ NB541_554.out _;(with_reducible repeat (first|apply bN|apply bD|apply bA));exact BK541.out) hb);have n7_:=am (blk_below (g:=gb542) (o:=.cells #[.int .i64 t538,.int .i64 t539] 31 (0,0)) (by (with_reducible repeat (first|apply bN|apply bD|apply bA));refine blk_far ?_ NB542_554.out _;(with_reducible repeat (first|apply bN|apply bD|apply bA));refine blk_far ?_ NB542_554.out _;(with_reducible repeat (first|apply bN|apply bD|apply bA));exact BK542.out) hb);have n8_:=am (blk_below (g:=gb548) (o:=.cells #[.string t543,.slice Ao62 t544.length co62] 25 (0,0)) (by (with_reducible repeat (first|apply bN|apply bD|apply bA));refine blk_far ?_ NB548_554.out _;(with_reducible repeat (first|apply bN|apply bD|apply bA));refine blk_far ?_ NB548_554.out _;(with_reducible repeat (first|apply bN|apply bD|apply bA));exact BK548.out) hb);have n9_:=am (blk_below (g:=gb554) (o:=.cells #[.string t549,.slice Ao74 t550.length co74] 25 (0,0)) (by (with_reducible repeat (first|apply bN|apply bD|apply bA));refine blk_put (cs:=#[.string t549,.slice none 0 0]) ?_ 1 _ rfl;(with_reducible repeat (first|apply bN|apply bD|apply bA));refine blk_put (cs:=#[.string (⟨#[]⟩ : ByteArray),.slice none 0 0]) ?_ 0 _ rfl;(with_reducible repeat (first|apply bN|apply bD|apply bA));exact BK554.out) hb);have n10_:=am (below_step (by repeat (first|(with_reducible first|exact HB.out|apply lA|apply lN|apply lD|refine lS ?_ GE527.out|refine lS ?_ GE535.out|refine lS ?_ GE541.out|refine lS ?_ GE542.out|refine lS ?_ GE548.out|refine lS ?_ GE554.out)|exact HB.out)) hb);clear HO_536001;clear HO546;clear HO552;clear BK527;clear BK535;clear BK541;clear BK542;clear BK548;clear BK554;clear HB;have HO_536001:=n0_;have HO546:=n1_;have HO552:=n2_;have HO558:=n3_;have BK527:=n4_;have BK535:=n5_;have BK541:=n6_;have BK542:=n7_;have BK548:=n8_;have BK554:=n9_;have HB:=n10_;clear n0_ n1_ n2_ n3_ n4_ n5_ n6_ n7_ n8_ n9_ n10_;(try clear hb);(try clear hb2);(try clear hk);(try clear hi);(try clear ho0))|((with_reducible refine gate_dst (N:=12) rfl ?_);refine box_event ?hg (N:=12) ?hd (cs:=#[.string (⟨#[]⟩ : ByteArray),.slice none 0 0]) (t:=25) ?hr ?_;(case hd=>rfl);(case hg=>rfl);(case hr=>first|(go_simp;done)|(go_simp;rfl));intro gb560 hg w77 hbox hb;have n0_:=am (Kd.R_below (by (with_reducible repeat (first|apply rA|apply rN|apply rD));exact HO_536001.out) hb);have n1_:=am (Kd.R_below (by (with_reducible repeat (first|apply rA|apply rN|apply rD));exact HO546.out) hb);have n2_:=am (Kd.R_below (by (with_reducible repeat (first|apply rA|apply rN|apply rD));exact HO552.out) hb);have n3_:=am (Kd.R_below (by (with_reducible repeat (first|apply rA|apply rN|apply rD));exact HO558.out) hb);have n4_:=am (blk_below (g:=gb527) (o:=.cells #[.string a0_0,.slice A0_1 l0_1.length c0_1] 25 (0,0)) (by (with_reducible repeat (first|apply bN|apply bD|apply bA));exact BK527.out) hb);have n5_:=am (blk_below (g:=gb535) (o:=.cells #[.string t530,.slice Ao19 t531.length co19] 25 (0,0)) (by (with_reducible repeat (first|apply bN|apply bD|apply bA));exact BK535.out) hb);have n6_:=am (blk_below (g:=gb541) (o:=.cells #[.int .i64 t536,.int .i64 t537] 31 (0,0)) (by (with_reducible repeat (first|apply bN|apply bD|apply bA));exact BK541.out) hb);have n7_:=am (blk_below (g:=gb542) (o:=.cells #[.int .i64 t538,.int .i64 t539] 31 (0,0)) (by (with_reducible repeat (first|apply bN|apply bD|apply bA));exact BK542.out) hb);have n8_:=am (blk_below (g:=gb548) (o:=.cells #[.string t543,.slice Ao62 t544.length co62] 25 (0,0)) (by (with_reducible repeat (first|apply bN|apply bD|apply bA));exact BK548.out) hb);have n9_:=am (blk_below (g:=gb554) (o:=.cells #[.string t549,.slice Ao74 t550.length co74] 25 (0,0)) (by (with_reducible repeat (first|apply bN|apply bD|apply bA));exact BK554.out) hb);have n10_:=am (below_step (by repeat (first|(with_reducible first|exact HB.out|apply lA|apply lN|apply lD|refine lS ?_ GE527.out|refine lS ?_ GE535.out|refine lS ?_ GE541.out|refine lS ?_ GE542.out|refine lS ?_ GE548.out|refine lS ?_ GE554.out)|exact HB.out)) hb);have n11_:=am (hbox);have n12_:=am ((by rw [hg];exact (below_size (by repeat (first|(with_reducible first|exact HB.out|apply lA|apply lN|apply lD|refine lS ?_ GE527.out|refine lS ?_ GE535.out|refine lS ?_ GE541.out|refine lS ?_ GE542.out|refine lS ?_ GE548.out|refine lS ?_ GE554.out)|exact HB.out))) : w.heap.size ≤ gb560));have n13_:=am ((by rw [hg];exact (below_size (by repeat (first|(with_reducible first|exact HB.out|apply lA|apply lN|apply lD|refine lS ?_ GE527.out|refine lS ?_ GE535.out|refine lS ?_ GE541.out|refine lS ?_ GE542.out|refine lS ?_ GE548.out|refine lS ?_ GE554.out)|exact HB.out))) : w.heap.size ≤ gb560));have n14_:=am ((by rw [hg];exact Nat.ne_of_lt (blk_lt (g:=gb527) (o:=.cells #[.string a0_0,.slice A0_1 l0_1.length c0_1] 25 (0,0)) (by (with_reducible repeat (first|apply bN|apply bD|apply bA));exact BK527.out)) : gb527 ≠ gb560));have n15_:=am ((by rw [hg];exact Nat.ne_of_gt (blk_lt (g:=gb527) (o:=.cells #[.string a0_0,.slice A0_1 l0_1.length c0_1] 25 (0,0)) (by (with_reducible repeat (first|apply bN|apply bD|apply bA));exact BK527.out)) : gb560 ≠ gb527));have n16_:=am ((by rw [hg];exact Nat.ne_of_lt (blk_lt (g:=gb535) (o:=.cells #[.string t530,.slice Ao19 t531.length co19] 25 (0,0)) (by (with_reducible repeat (first|apply bN|apply bD|apply bA));exact BK535.out)) : gb535 ≠ gb560));have n17_:=am ((by rw [hg];exact Nat.ne_of_gt (blk_lt (g:=gb535) (o:=.cells #[.string t530,.slice Ao19 t531.length co19] 25 (0,0)) (by (with_reducible repeat (first|apply bN|apply bD|apply bA));exact BK535.out)) : gb560 ≠ gb535));have n18_:=am ((by rw [hg];exact Nat.ne_of_lt (blk_lt (g:=gb541) (o:=.cells #[.int .i64 t536,.int .i64 t537] 31 (0,0)) (by (with_reducible repeat (first|apply bN|apply bD|apply bA));exact BK541.out)) : gb541 ≠ gb560));have n19_:=am ((by rw [hg];exact Nat.ne_of_gt (blk_lt (g:=gb541) (o:=.cells #[.int .i64 t536,.int .i64 t537] 31 (0,0)) (by (with_reducible repeat (first|apply bN|apply bD|apply bA));exact BK541.out)) : gb560 ≠ gb541));have n20_:=am ((by rw [hg];exact Nat.ne_of_lt (blk_lt (g:=gb542) (o:=.cells #[.int .i64 t538,.int .i64 t539] 31 (0,0)) (by (with_reducible repeat (first|apply bN|apply bD|apply bA));exact BK542.out)) : gb542 ≠ gb560));have n21_:=am ((by rw [hg];exact Nat.ne_of_gt (blk_lt (g:=gb542) (o:=.cells #[.int .i64 t538,.int .i64 t539] 31 (0,0)) (by (with_reducible repeat (first|apply bN|apply bD|apply bA));exact BK542.out)) : gb560 ≠ gb542));have n22_:=am ((by rw [hg];exact Nat.ne_of_lt (blk_lt (g:=gb548) (o:=.cells #[.string t543,.slice Ao62 t544.length co62] 25 (0,0)) (by (with_reducible repeat (first|apply bN|apply bD|apply bA));exact BK548.out)) : gb548 ≠ gb560));have n23_:=am ((by rw [hg];exact Nat.ne_of_gt (blk_lt (g:=gb548) (o:=.cells #[.string t543,.slice Ao62 t544.length co62] 25 (0,0)) (by (with_reducible repeat (first|apply bN|apply bD|apply bA));exact BK548.out)) : gb560 ≠ gb548));have n24_:=am ((by rw [hg];exact Nat.ne_of_lt (blk_lt (g:=gb554) (o:=.cells #[.string t549,.slice Ao74 t550.length co74] 25 (0,0)) (by (with_reducible repeat (first|apply bN|apply bD|apply bA));exact BK554.out)) : gb554 ≠ gb560));have n25_:=am ((by rw [hg];exact Nat.ne_of_gt (blk_lt (g:=gb554) (o:=.cells #[.string t549,.slice Ao74 t550.length co74] 25 (0,0)) (by (with_reducible repeat (first|apply bN|apply bD|apply bA));exact BK554.out)) : gb560 ≠ gb554));clear HO_536001;clear HO546;clear HO552;clear HO558;clear BK527;clear BK535;clear BK541;clear BK542;clear BK548;clear BK554;clear HB;have HO_536001:=n0_;have HO546:=n1_;have HO552:=n2_;have HO558:=n3_;have BK527:=n4_;have BK535:=n5_;have BK541:=n6_;have BK542:=n7_;have BK548:=n8_;have BK554:=n9_;have HB:=n10_;have BK560:=n11_;have GW560:=n12_;have GE560:=n13_;have NB527_560:=n14_;have NB560_527:=n15_;have NB535_560:=n16_;have NB560_535:=n17_;have NB541_560:=n18_;have NB560_541:=n19_;have NB542_560:=n20_;have NB560_542:=n21_;have NB548_560:=n22_;have NB560_548:=n23_;have NB554_560:=n24_;have NB560_554:=n25_;clear n0_ n1_ n2_ n3_ n4_ n5_ n6_ n7_ n8_ n9_ n10_ n11_ n12_ n13_ n14_ n15_ n16_ n17_ n18_ n19_ n20_ n21_ n22_ n23_ n24_ n25_;clear hb hbox hg;have hnb78:=NB560_527.out;have hnc78:=NB527_560.out;have hnb79:=NB560_535.out;have hnc79:=NB535_560.out;have hnb80:=NB560_541.out;have hnc80:=NB541_560.out;have hnb81:=NB560_542.out;have hnc81:=NB542_560.out;have hnb82:=NB560_548.out;have hnc82:=NB548_560.out;have hnb83:=NB560_554.out;have hnc83:=NB554_560.out;have hcz84_0 : w77.cell? ⟨gb560,0,none⟩ = some (.string (⟨#[]⟩ : ByteArray)):=(blk_cell BK560.out 0).trans rfl;have hcz84_1 : w77.cell? ⟨gb560,1,none⟩ = some (.slice none 0 0):=(blk_cell BK560.out 1).trans rfl;have hfz84_0:=blk_frozen BK560.out 0;have hfz84_1:=blk_frozen BK560.out 1;obtain ⟨Ao85,co85,eo85⟩ := Kd.R_slice HO558.out;subst eo85))
        (try simp only [Act.put,sA,s0,sS])
        go_cut [103] (fun v103 wc=>∃ (kq : Nat) (x103_49 : Bool),v103 = .bool x103_49 ∧ Aside0 (gangsawlaw39_ProfileMirrored.j1 kq x103_49 a0_0 l0_1 t530 t531 t543 t544 = some r) ∧ Aside0 (kq ≤ kj8) ∧ Aside0 (Kd.R k31 31 wc w.heap.size (fun k_=>some k_ ≠ ((.slice Ao62 t544.length co62) : Value).ownBlock ∧ some k_ ≠ ((.slice Ao74 t550.length co74) : Value).ownBlock ∧ some k_ ≠ ((.slice Ao85 t556.length co85) : Value).ownBlock ∧ k_ ≠ gb541 ∧ k_ ≠ gb542) (.slice Ao19 t531.length co19) t531) ∧ Aside0 (Kd.R k31 31 wc w.heap.size (fun k_=>some k_ ≠ ((.slice Ao19 t531.length co19) : Value).ownBlock ∧ some k_ ≠ ((.slice Ao74 t550.length co74) : Value).ownBlock ∧ some k_ ≠ ((.slice Ao85 t556.length co85) : Value).ownBlock ∧ k_ ≠ gb541 ∧ k_ ≠ gb542) (.slice Ao62 t544.length co62) t544) ∧ Aside0 (Kd.R k31 31 wc w.heap.size (fun k_=>some k_ ≠ ((.slice Ao19 t531.length co19) : Value).ownBlock ∧ some k_ ≠ ((.slice Ao62 t544.length co62) : Value).ownBlock ∧ some k_ ≠ ((.slice Ao85 t556.length co85) : Value).ownBlock ∧ k_ ≠ gb541 ∧ k_ ≠ gb542) (.slice Ao74 t550.length co74) t550) ∧ Aside0 (Kd.R k31 31 wc w.heap.size (fun k_=>some k_ ≠ ((.slice Ao19 t531.length co19) : Value).ownBlock ∧ some k_ ≠ ((.slice Ao62 t544.length co62) : Value).ownBlock ∧ some k_ ≠ ((.slice Ao74 t550.length co74) : Value).ownBlock ∧ k_ ≠ gb541 ∧ k_ ≠ gb542) (.slice Ao85 t556.length co85) t556) ∧ Aside0 (wc.heap[gb527]? = some (.cells #[.string a0_0,(.slice A0_1 l0_1.length c0_1)] 25 (0,0))) ∧ Aside0 (wc.heap[gb535]? = some (.cells #[.string t530,(.slice Ao19 t531.length co19)] 25 (0,0))) ∧ Aside0 (wc.heap[gb541]? = some (.cells #[.int .i64 t536,.int .i64 t537] 31 (0,0))) ∧ Aside0 (wc.heap[gb542]? = some (.cells #[.int .i64 t538,.int .i64 t539] 31 (0,0))) ∧ Aside0 (wc.heap[gb548]? = some (.cells #[.string t543,(.slice Ao62 t544.length co62)] 25 (0,0))) ∧ Aside0 (wc.heap[gb554]? = some (.cells #[.string t549,(.slice Ao74 t550.length co74)] 25 (0,0))) ∧ Aside0 (wc.heap[gb560]? = some (.cells #[.string t555,(.slice Ao85 t556.length co85)] 25 (0,0))) ∧ Aside0 (Below w.heap.size w wc))
        case first =>
         as_aux_lemma =>
          have H:=HC50.out
          clear HC50
          by_cases c86 : t547 = 0
          ·rw [if_pos c86] at H
           have c86b0 : (t547 == 0) = true:=beq_iff_eq.mpr c86
           have c86b1 : (t547 != 0) = false:=bne_eq_false_iff_eq.mpr c86
           clear c86
           (first|rw [c86b0]|(simp only [i64_w,i32_w];rw [c86b0])|skip)
           by_cases c87 : t553 = 0
           ·rw [if_pos c87] at H
            have c87b0 : (t553 == 0) = true:=beq_iff_eq.mpr c87
            have c87b1 : (t553 != 0) = false:=bne_eq_false_iff_eq.mpr c87
            clear c87
            by_cases c88 : t559 = 0
            ·rw [if_pos c88] at H
             have c88b0 : (t559 == 0) = true:=beq_iff_eq.mpr c88
             have c88b1 : (t559 != 0) = false:=bne_eq_false_iff_eq.mpr c88
             clear c88
             replace H:=Option.bind_eq_some_iff.mp H
             obtain ⟨t561,A890,H⟩ := H
             replace H : (if t561 = true then ((gangsawlaw39_same.f kj8 t530 t531 t555 t556).bind fun t562=>(gangsawlaw39_ProfileMirrored.j1 kj8 (!t562) a0_0 l0_1 t530 t531 t543 t544)) else (gangsawlaw39_ProfileMirrored.j1 kj8 true a0_0 l0_1 t530 t531 t543 t544)) = some r:=H
             have A89:=am A890
             clear A890
             by_cases c90 : t561 = true
             ·subst c90
              have H1 : ((gangsawlaw39_same.f kj8 t530 t531 t555 t556).bind fun t562=>(gangsawlaw39_ProfileMirrored.j1 kj8 (!t562) a0_0 l0_1 t530 t531 t543 t544)) = some r:=by rw [if_pos rfl] at H;exact H
              clear H
              have H:=H1
              clear H1
              replace H:=Option.bind_eq_some_iff.mp H
              obtain ⟨t562,A910,H⟩ := H
              replace H : (gangsawlaw39_ProfileMirrored.j1 kj8 (!t562) a0_0 l0_1 t530 t531 t543 t544) = some r:=H
              have A91:=am A910
              clear A910
              have H':=am H
              clear H
              have hnb92:=NB535_527.out
              have hnc92:=NB527_535.out
              have hnb93:=NB535_541.out
              have hnc93:=NB541_535.out
              have hnb94:=NB535_542.out
              have hnc94:=NB542_535.out
              have hnb95:=NB535_548.out
              have hnc95:=NB548_535.out
              have hnb96:=NB535_554.out
              have hnc96:=NB554_535.out
              have hnb97:=NB535_560.out
              have hnc97:=NB560_535.out
              have hcz98_0 : w77.cell? ⟨gb535,0,none⟩ = some (.string t530):=(blk_cell BK535.out 0).trans rfl
              have hcz98_1 : w77.cell? ⟨gb535,1,none⟩ = some (.slice Ao19 t531.length co19):=(blk_cell BK535.out 1).trans rfl
              have hfz98_0:=blk_frozen BK535.out 0
              have hfz98_1:=blk_frozen BK535.out 1
              have hnb99:=NB554_527.out
              have hnc99:=NB527_554.out
              have hnb100:=NB554_541.out
              have hnc100:=NB541_554.out
              have hnb101:=NB554_542.out
              have hnc101:=NB542_554.out
              have hnb102:=NB554_548.out
              have hnc102:=NB548_554.out
              have hnb103:=NB554_560.out
              have hnc103:=NB560_554.out
              have hcz104_0 : w77.cell? ⟨gb554,0,none⟩ = some (.string t549):=(blk_cell BK554.out 0).trans rfl
              have hcz104_1 : w77.cell? ⟨gb554,1,none⟩ = some (.slice Ao74 t550.length co74):=(blk_cell BK554.out 1).trans rfl
              have hfz104_0:=blk_frozen BK554.out 0
              have hfz104_1:=blk_frozen BK554.out 1
              go_wp2_with (first|(go_at_call 23;(with_reducible refine (gangsawlaw39_same.calls kj8 t530 _ _ t531 t549 _ _ t550 true _ ?side1 ?side2 ?side3 ?side4 A89.out).mono ?_);(case side1=>refine (Kd.R_reads' (e:=31) (base:=w.heap.size) (ok:=fun k_=>((((k_ ≠ gb541 ∧ k_ ≠ gb542) ∧ some k_ ≠ (.slice Ao62 t544.length co62 : Value).ownBlock) ∧ some k_ ≠ (.slice Ao74 t550.length co74 : Value).ownBlock) ∧ some k_ ≠ (.slice Ao85 t556.length co85 : Value).ownBlock)) (n:=t531.length) (c:=co19) ?_).2.2;exact (by (with_reducible repeat (first|apply rA|apply rN|apply rD));exact (Kd.R_mono (Kd.R_far (p:=⟨gb560,1,none⟩) (Kd.R_far (p:=⟨gb560,0,none⟩) (Kd.R_types HO_536001.out BK560.out (by decide)) (fun _ hk=>hk.2) (.string t555)) (fun _ hk=>hk.2) (.slice Ao85 t556.length co85)) (fun _ h_=>h_.1))));(case side2=>exact (Kd.R_reads' HO_536001.out).2.1);(case side3=>refine (Kd.R_reads' (e:=31) (base:=w.heap.size) (ok:=fun k_=>(((((True ∧ some k_ ≠ (.slice Ao19 t531.length co19 : Value).ownBlock) ∧ some k_ ≠ (.slice Ao62 t544.length co62 : Value).ownBlock) ∧ k_ ≠ gb541) ∧ k_ ≠ gb542) ∧ some k_ ≠ (.slice Ao85 t556.length co85 : Value).ownBlock)) (n:=t550.length) (c:=co74) ?_).2.2;exact (by (with_reducible repeat (first|apply rA|apply rN|apply rD));exact (Kd.R_mono (Kd.R_far (p:=⟨gb560,1,none⟩) (Kd.R_far (p:=⟨gb560,0,none⟩) (Kd.R_types HO552.out BK560.out (by decide)) (fun _ hk=>hk.2) (.string t555)) (fun _ hk=>hk.2) (.slice Ao85 t556.length co85)) (fun _ h_=>h_.1))));(case side4=>exact (Kd.R_reads' HO552.out).2.1);rintro e w105 ⟨rfl,hb⟩;have n0_:=am (Kd.R_below (by (with_reducible repeat (first|apply rA|apply rN|apply rD));exact (Kd.R_mono (Kd.R_far (p:=⟨gb560,1,none⟩) (Kd.R_far (p:=⟨gb560,0,none⟩) (Kd.R_types HO_536001.out BK560.out (by decide)) (fun _ hk=>hk.2) (.string t555)) (fun _ hk=>hk.2) (.slice Ao85 t556.length co85)) (fun _ h_=>h_.1))) hb);have n1_:=am (Kd.R_below (by (with_reducible repeat (first|apply rA|apply rN|apply rD));exact (Kd.R_mono (Kd.R_far (p:=⟨gb560,1,none⟩) (Kd.R_far (p:=⟨gb560,0,none⟩) (Kd.R_types HO546.out BK560.out (by decide)) (fun _ hk=>hk.2) (.string t555)) (fun _ hk=>hk.2) (.slice Ao85 t556.length co85)) (fun _ h_=>h_.1))) hb);have n2_:=am (Kd.R_below (by (with_reducible repeat (first|apply rA|apply rN|apply rD));exact (Kd.R_mono (Kd.R_far (p:=⟨gb560,1,none⟩) (Kd.R_far (p:=⟨gb560,0,none⟩) (Kd.R_types HO552.out BK560.out (by decide)) (fun _ hk=>hk.2) (.string t555)) (fun _ hk=>hk.2) (.slice Ao85 t556.length co85)) (fun _ h_=>h_.1))) hb);have n3_:=am (Kd.R_below (by (with_reducible repeat (first|apply rA|apply rN|apply rD));exact (Kd.R_mono (Kd.R_far (p:=⟨gb560,1,none⟩) (Kd.R_far (p:=⟨gb560,0,none⟩) (Kd.R_types HO558.out BK560.out (by decide)) (fun _ hk=>hk.2) (.string t555)) (fun _ hk=>hk.2) (.slice Ao85 t556.length co85)) (fun _ h_=>h_.1))) hb);have n4_:=am (blk_below (g:=gb527) (o:=.cells #[.string a0_0,.slice A0_1 l0_1.length c0_1] 25 (0,0)) (by (with_reducible repeat (first|apply bN|apply bD|apply bA));refine blk_far ?_ NB527_560.out _;(with_reducible repeat (first|apply bN|apply bD|apply bA));refine blk_far ?_ NB527_560.out _;(with_reducible repeat (first|apply bN|apply bD|apply bA));exact BK527.out) hb);have n5_:=am (blk_below (g:=gb535) (o:=.cells #[.string t530,.slice Ao19 t531.length co19] 25 (0,0)) (by (with_reducible repeat (first|apply bN|apply bD|apply bA));refine blk_far ?_ NB535_560.out _;(with_reducible repeat (first|apply bN|apply bD|apply bA));refine blk_far ?_ NB535_560.out _;(with_reducible repeat (first|apply bN|apply bD|apply bA));exact BK535.out) hb);have n6_:=am (blk_below (g:=gb541) (o:=.cells #[.int .i64 t536,.int .i64 t537] 31 (0,0)) (by (with_reducible repeat (first|apply bN|apply bD|apply bA));refine blk_far ?_ NB541_560.out _;(with_reducible repeat (first|apply bN|apply bD|apply bA));refine blk_far ?_ NB541_560.out _;(with_reducible repeat (first|apply bN|apply bD|apply bA));exact BK541.out) hb);have n7_:=am (blk_below (g:=gb542) (o:=.cells #[.int .i64 t538,.int .i64 t539] 31 (0,0)) (by (with_reducible repeat (first|apply bN|apply bD|apply bA));refine blk_far ?_ NB542_560.out _;(with_reducible repeat (first|apply bN|apply bD|apply bA));refine blk_far ?_ NB542_560.out _;(with_reducible repeat (first|apply bN|apply bD|apply bA));exact BK542.out) hb);have n8_:=am (blk_below (g:=gb548) (o:=.cells #[.string t543,.slice Ao62 t544.length co62] 25 (0,0)) (by (with_reducible repeat (first|apply bN|apply bD|apply bA));refine blk_far ?_ NB548_560.out _;(with_reducible repeat (first|apply bN|apply bD|apply bA));refine blk_far ?_ NB548_560.out _;(with_reducible repeat (first|apply bN|apply bD|apply bA));exact BK548.out) hb);have n9_:=am (blk_below (g:=gb554) (o:=.cells #[.string t549,.slice Ao74 t550.length co74] 25 (0,0)) (by (with_reducible repeat (first|apply bN|apply bD|apply bA));refine blk_far ?_ NB554_560.out _;(with_reducible repeat (first|apply bN|apply bD|apply bA));refine blk_far ?_ NB554_560.out _;(with_reducible repeat (first|apply bN|apply bD|apply bA));exact BK554.out) hb);have n10_:=am (blk_below (g:=gb560) (o:=.cells #[.string t555,.slice Ao85 t556.length co85] 25 (0,0)) (by (with_reducible repeat (first|apply bN|apply bD|apply bA));refine blk_put (cs:=#[.string t555,.slice none 0 0]) ?_ 1 _ rfl;(with_reducible repeat (first|apply bN|apply bD|apply bA));refine blk_put (cs:=#[.string (⟨#[]⟩ : ByteArray),.slice none 0 0]) ?_ 0 _ rfl;(with_reducible repeat (first|apply bN|apply bD|apply bA));exact BK560.out) hb);have n11_:=am (below_step (by repeat (first|(with_reducible first|exact HB.out|apply lA|apply lN|apply lD|refine lS ?_ GE527.out|refine lS ?_ GE535.out|refine lS ?_ GE541.out|refine lS ?_ GE542.out|refine lS ?_ GE548.out|refine lS ?_ GE554.out|refine lS ?_ GE560.out)|exact HB.out)) hb);clear HO_536001;clear HO546;clear HO552;clear HO558;clear BK527;clear BK535;clear BK541;clear BK542;clear BK548;clear BK554;clear BK560;clear HB;have HO_536001:=n0_;have HO546:=n1_;have HO552:=n2_;have HO558:=n3_;have BK527:=n4_;have BK535:=n5_;have BK541:=n6_;have BK542:=n7_;have BK548:=n8_;have BK554:=n9_;have BK560:=n10_;have HB:=n11_;clear n0_ n1_ n2_ n3_ n4_ n5_ n6_ n7_ n8_ n9_ n10_ n11_;(try clear hb);(try clear hb2);(try clear hk);(try clear hi);have hcz106_0 : w105.cell? ⟨gb535,0,none⟩ = some (.string t530):=(blk_cell BK535.out 0).trans rfl;have hcz106_1 : w105.cell? ⟨gb535,1,none⟩ = some (.slice Ao19 t531.length co19):=(blk_cell BK535.out 1).trans rfl;have hfz106_0:=blk_frozen BK535.out 0;have hfz106_1:=blk_frozen BK535.out 1;have hnb107:=NB560_527.out;have hnc107:=NB527_560.out;have hnb108:=NB560_541.out;have hnc108:=NB541_560.out;have hnb109:=NB560_542.out;have hnc109:=NB542_560.out;have hnb110:=NB560_548.out;have hnc110:=NB548_560.out;have hcz111_0 : w105.cell? ⟨gb560,0,none⟩ = some (.string t555):=(blk_cell BK560.out 0).trans rfl;have hcz111_1 : w105.cell? ⟨gb560,1,none⟩ = some (.slice Ao85 t556.length co85):=(blk_cell BK560.out 1).trans rfl;have hfz111_0:=blk_frozen BK560.out 0;have hfz111_1:=blk_frozen BK560.out 1)|(go_at_call 23;(with_reducible refine (gangsawlaw39_same.calls kj8 t530 _ _ t531 t555 _ _ t556 t562 _ ?side1 ?side2 ?side3 ?side4 A91.out).mono ?_);(case side1=>repeat (first|exact (Kd.R_reads' HO_536001.out).2.2|(with_reducible first|apply kA|apply kN|apply kD)));(case side2=>exact (Kd.R_reads' HO_536001.out).2.1);(case side3=>repeat (first|exact (Kd.R_reads' HO558.out).2.2|(with_reducible first|apply kA|apply kN|apply kD)));(case side4=>exact (Kd.R_reads' HO558.out).2.1);rintro e w112 ⟨rfl,hb⟩;have n0_:=am (Kd.R_below (by (with_reducible repeat (first|apply rA|apply rN|apply rD));exact HO_536001.out) hb);have n1_:=am (Kd.R_below (by (with_reducible repeat (first|apply rA|apply rN|apply rD));exact HO546.out) hb);have n2_:=am (Kd.R_below (by (with_reducible repeat (first|apply rA|apply rN|apply rD));exact HO552.out) hb);have n3_:=am (Kd.R_below (by (with_reducible repeat (first|apply rA|apply rN|apply rD));exact HO558.out) hb);have n4_:=am (blk_below (g:=gb527) (o:=.cells #[.string a0_0,.slice A0_1 l0_1.length c0_1] 25 (0,0)) (by (with_reducible repeat (first|apply bN|apply bD|apply bA));exact BK527.out) hb);have n5_:=am (blk_below (g:=gb535) (o:=.cells #[.string t530,.slice Ao19 t531.length co19] 25 (0,0)) (by (with_reducible repeat (first|apply bN|apply bD|apply bA));exact BK535.out) hb);have n6_:=am (blk_below (g:=gb541) (o:=.cells #[.int .i64 t536,.int .i64 t537] 31 (0,0)) (by (with_reducible repeat (first|apply bN|apply bD|apply bA));exact BK541.out) hb);have n7_:=am (blk_below (g:=gb542) (o:=.cells #[.int .i64 t538,.int .i64 t539] 31 (0,0)) (by (with_reducible repeat (first|apply bN|apply bD|apply bA));exact BK542.out) hb);have n8_:=am (blk_below (g:=gb548) (o:=.cells #[.string t543,.slice Ao62 t544.length co62] 25 (0,0)) (by (with_reducible repeat (first|apply bN|apply bD|apply bA));exact BK548.out) hb);have n9_:=am (blk_below (g:=gb554) (o:=.cells #[.string t549,.slice Ao74 t550.length co74] 25 (0,0)) (by (with_reducible repeat (first|apply bN|apply bD|apply bA));exact BK554.out) hb);have n10_:=am (blk_below (g:=gb560) (o:=.cells #[.string t555,.slice Ao85 t556.length co85] 25 (0,0)) (by (with_reducible repeat (first|apply bN|apply bD|apply bA));exact BK560.out) hb);have n11_:=am (below_step (by repeat (first|(with_reducible first|exact HB.out|apply lA|apply lN|apply lD|refine lS ?_ GE527.out|refine lS ?_ GE535.out|refine lS ?_ GE541.out|refine lS ?_ GE542.out|refine lS ?_ GE548.out|refine lS ?_ GE554.out|refine lS ?_ GE560.out)|exact HB.out)) hb);clear HO_536001;clear HO546;clear HO552;clear HO558;clear BK527;clear BK535;clear BK541;clear BK542;clear BK548;clear BK554;clear BK560;clear HB;have HO_536001:=n0_;have HO546:=n1_;have HO552:=n2_;have HO558:=n3_;have BK527:=n4_;have BK535:=n5_;have BK541:=n6_;have BK542:=n7_;have BK548:=n8_;have BK554:=n9_;have BK560:=n10_;have HB:=n11_;clear n0_ n1_ n2_ n3_ n4_ n5_ n6_ n7_ n8_ n9_ n10_ n11_;(try clear hb);(try clear hb2);(try clear hk);(try clear hi)))
              go_meet
              case rel=>exact ⟨_,(!t562),(by first|rfl|(simp;done)|(simp [*];done)),H',⟨by have:=HJ8.out;first|omega|exact Nat.le_refl _⟩,⟨by (with_reducible repeat (first|apply rA|apply rN|apply rD));exact Kd.R_mono HO_536001.out (fun _ hk=>⟨hk.1.1.2,⟨hk.1.2,⟨hk.2,⟨hk.1.1.1.1,hk.1.1.1.2⟩⟩⟩⟩)⟩,⟨by (with_reducible repeat (first|apply rA|apply rN|apply rD));exact Kd.R_mono HO546.out (fun _ hk=>⟨hk.1.1.1.1.2,⟨hk.1.2,⟨hk.2,⟨hk.1.1.1.2,hk.1.1.2⟩⟩⟩⟩)⟩,⟨by (with_reducible repeat (first|apply rA|apply rN|apply rD));exact Kd.R_mono HO552.out (fun _ hk=>⟨hk.1.1.1.1.2,⟨hk.1.1.1.2,⟨hk.2,⟨hk.1.1.2,hk.1.2⟩⟩⟩⟩)⟩,⟨by (with_reducible repeat (first|apply rA|apply rN|apply rD));exact Kd.R_mono HO558.out (fun _ hk=>⟨hk.1.1.1.1.2,⟨hk.1.1.1.2,⟨hk.1.1.2,⟨hk.1.2,hk.2⟩⟩⟩⟩)⟩,⟨by (with_reducible repeat (first|apply bN|apply bD|apply bA));exact BK527.out⟩,⟨by (with_reducible repeat (first|apply bN|apply bD|apply bA));exact BK535.out⟩,⟨by (with_reducible repeat (first|apply bN|apply bD|apply bA));exact BK541.out⟩,⟨by (with_reducible repeat (first|apply bN|apply bD|apply bA));exact BK542.out⟩,⟨by (with_reducible repeat (first|apply bN|apply bD|apply bA));exact BK548.out⟩,⟨by (with_reducible repeat (first|apply bN|apply bD|apply bA));exact BK554.out⟩,⟨by (with_reducible repeat (first|apply bN|apply bD|apply bA));exact BK560.out⟩,⟨by repeat (first|(with_reducible first|exact HB.out|apply lA|apply lN|apply lD|refine lS ?_ GE527.out|refine lS ?_ GE535.out|refine lS ?_ GE541.out|refine lS ?_ GE542.out|refine lS ?_ GE548.out|refine lS ?_ GE554.out|refine lS ?_ GE560.out)|exact HB.out)⟩⟩
             ·replace c90:=Bool.eq_false_iff.mpr c90
              subst c90
              have H1 : (gangsawlaw39_ProfileMirrored.j1 kj8 true a0_0 l0_1 t530 t531 t543 t544) = some r:=by rw [if_neg (show ¬ (false = true) by decide)] at H;exact H
              clear H
              have H:=H1
              clear H1
              exact absurd H (by cases kj8 <;> simp [gangsawlaw39_ProfileMirrored.j1])
            ·rw [if_neg c88] at H
             have c88b0 : (t559 == 0) = false:=beq_eq_false_iff_ne.mpr c88
             have c88b1 : (t559 != 0) = true:=bne_iff_ne.mpr c88
             exact absurd H (by cases kj8 <;> simp [gangsawlaw39_ProfileMirrored.j1])
           ·rw [if_neg c87] at H
            have c87b0 : (t553 == 0) = false:=beq_eq_false_iff_ne.mpr c87
            have c87b1 : (t553 != 0) = true:=bne_iff_ne.mpr c87
            exact absurd H (by cases kj8 <;> simp [gangsawlaw39_ProfileMirrored.j1])
          ·rw [if_neg c86] at H
           have c86b0 : (t547 == 0) = false:=beq_eq_false_iff_ne.mpr c86
           have c86b1 : (t547 != 0) = true:=bne_iff_ne.mpr c86
           (first|rw [c86b0]|(simp only [i64_w,i32_w];rw [c86b0])|skip)
           exact absurd H (by cases kj8 <;> simp [gangsawlaw39_ProfileMirrored.j1])
        case rest =>
         as_aux_lemma =>
          clear HC50
          try clear c1
          try clear c2
          try clear p2
          try clear c3
          try clear c4
          try clear c5
          try clear c6
          try clear c7
          try clear c7b0
          try clear c7b1
          try clear c8
          try clear c9
          try clear c10
          try clear c11
          try clear c12
          try clear c14
          try clear c17
          try clear c20
          try clear c21
          try clear c24
          try clear c25
          try clear c26
          try clear c28
          try clear c29
          try clear c31
          try clear c31b0
          try clear c31b1
          try clear c32
          try clear c32b0
          try clear c33
          try clear c34
          try clear c35
          try clear c37
          try clear c38
          try clear c39
          try clear c41
          try clear c42
          try clear c42b0
          try clear c42b1
          try clear c43
          try clear c44
          try clear c45
          try clear c51
          try clear c52
          try clear c53
          try clear c57
          try clear c58
          try clear c59
          try clear c60
          try clear c63
          try clear c64
          try clear c68
          try clear c69
          try clear c70
          try clear c71
          try clear c72
          try clear c78
          try clear c79
          try clear c80
          try clear c81
          try clear c82
          try clear c83
          try clear c86
          try clear c86b0
          try clear c86b1
          try clear c87
          try clear c87b0
          try clear c87b1
          try clear c88
          try clear c88b0
          try clear c88b1
          try clear c90
          try clear c92
          try clear c93
          try clear c94
          try clear c95
          try clear c96
          try clear c97
          try clear c99
          try clear c100
          try clear c101
          try clear c102
          try clear c103
          try clear c107
          try clear c108
          try clear c109
          try clear c110
          try clear c113
          try clear c114
          try clear c115
          try clear c116
          try clear c117
          try clear c118
          try clear c120
          try clear c121
          try clear c122
          try clear c123
          try clear c124
          try clear hcz104_0
          try clear hcz104_1
          try clear hcz106_0
          try clear hcz106_1
          try clear hcz111_0
          try clear hcz111_1
          try clear hcz119_0
          try clear hcz119_1
          try clear hcz125_0
          try clear hcz125_1
          try clear hcz12_0
          try clear hcz12_1
          try clear hcz14_0
          try clear hcz14_1
          try clear hcz18_0
          try clear hcz18_1
          try clear hcz20_0
          try clear hcz20_1
          try clear hcz27_0
          try clear hcz27_1
          try clear hcz30_0
          try clear hcz30_1
          try clear hcz36_0
          try clear hcz36_1
          try clear hcz40_0
          try clear hcz40_1
          try clear hcz46_0
          try clear hcz46_1
          try clear hcz54_0
          try clear hcz54_1
          try clear hcz61_0
          try clear hcz61_1
          try clear hcz65_0
          try clear hcz65_1
          try clear hcz73_0
          try clear hcz73_1
          try clear hcz75_0
          try clear hcz75_1
          try clear hcz84_0
          try clear hcz84_1
          try clear hcz98_0
          try clear hcz98_1
          try clear hfz104_0
          try clear hfz104_1
          try clear hfz106_0
          try clear hfz106_1
          try clear hfz111_0
          try clear hfz111_1
          try clear hfz119_0
          try clear hfz119_1
          try clear hfz125_0
          try clear hfz125_1
          try clear hfz12_0
          try clear hfz12_1
          try clear hfz14_0
          try clear hfz14_1
          try clear hfz18_0
          try clear hfz18_1
          try clear hfz20_0
          try clear hfz20_1
          try clear hfz27_0
          try clear hfz27_1
          try clear hfz30_0
          try clear hfz30_1
          try clear hfz36_0
          try clear hfz36_1
          try clear hfz40_0
          try clear hfz40_1
          try clear hfz46_0
          try clear hfz46_1
          try clear hfz54_0
          try clear hfz54_1
          try clear hfz61_0
          try clear hfz61_1
          try clear hfz65_0
          try clear hfz65_1
          try clear hfz73_0
          try clear hfz73_1
          try clear hfz75_0
          try clear hfz75_1
          try clear hfz84_0
          try clear hfz84_1
          try clear hfz98_0
          try clear hfz98_1
          try clear p2
          obtain ⟨kq,x103_49,rfl,HA,HJ49,HO_536001,HO_549001,HO_555001,HO_561001,BK527,BK535,BK541,BK542,BK548,BK554,BK560,HB⟩ := hcut
          cases kq with
          | zero=>exact absurd HA.out (by simp [gangsawlaw39_ProfileMirrored.j1])
          | succ kj49 =>
           have H:=HA.out
           clear HA
           simp only [gangsawlaw39_ProfileMirrored.j1] at H
           by_cases c127 : x103_49 = true
           ·subst c127
            have H1 : (none) = some r:=by rw [if_pos rfl] at H;exact H
            clear H
            have H:=H1
            clear H1
            exact absurd H (by simp)
           ·replace c127:=Bool.eq_false_iff.mpr c127
            subst c127
            have H1 : ((profile_Area.f kj49 a0_0 l0_1).bind fun bt563=>((profile_Area.f kj49 t530 t531).bind fun bt565=>((profile_Area.f kj49 t543 t544).bind fun bt567=>(if bt563.2 = 0 then (if bt565.2 = 0 then (if bt567.2 = 0 then (if bt563.1 = bt565.1 then (gangsawlaw39_ProfileMirrored.j2 kj49 (bt563.1 != bt567.1) a0_0 l0_1 t543 t544) else (gangsawlaw39_ProfileMirrored.j2 kj49 true a0_0 l0_1 t543 t544)) else (gangsawlaw39_ProfileMirrored.j2 kj49 true a0_0 l0_1 t543 t544)) else (gangsawlaw39_ProfileMirrored.j2 kj49 true a0_0 l0_1 t543 t544)) else (gangsawlaw39_ProfileMirrored.j2 kj49 true a0_0 l0_1 t543 t544))))) = some r:=by rw [if_neg (show ¬ (false = true) by decide)] at H;exact H
            clear H
            have H:=H1
            clear H1
            replace H:=Option.bind_eq_some_iff.mp H
            obtain ⟨⟨t563,t564⟩,A1280,H⟩ := H
            replace H : ((profile_Area.f kj49 t530 t531).bind fun bt565=>((profile_Area.f kj49 t543 t544).bind fun bt567=>(if t564 = 0 then (if bt565.2 = 0 then (if bt567.2 = 0 then (if t563 = bt565.1 then (gangsawlaw39_ProfileMirrored.j2 kj49 (t563 != bt567.1) a0_0 l0_1 t543 t544) else (gangsawlaw39_ProfileMirrored.j2 kj49 true a0_0 l0_1 t543 t544)) else (gangsawlaw39_ProfileMirrored.j2 kj49 true a0_0 l0_1 t543 t544)) else (gangsawlaw39_ProfileMirrored.j2 kj49 true a0_0 l0_1 t543 t544)) else (gangsawlaw39_ProfileMirrored.j2 kj49 true a0_0 l0_1 t543 t544)))) = some r:=H
            have A128:=am A1280
            clear A1280
            replace H:=Option.bind_eq_some_iff.mp H
            obtain ⟨⟨t565,t566⟩,A1290,H⟩ := H
            replace H : ((profile_Area.f kj49 t543 t544).bind fun bt567=>(if t564 = 0 then (if t566 = 0 then (if bt567.2 = 0 then (if t563 = t565 then (gangsawlaw39_ProfileMirrored.j2 kj49 (t563 != bt567.1) a0_0 l0_1 t543 t544) else (gangsawlaw39_ProfileMirrored.j2 kj49 true a0_0 l0_1 t543 t544)) else (gangsawlaw39_ProfileMirrored.j2 kj49 true a0_0 l0_1 t543 t544)) else (gangsawlaw39_ProfileMirrored.j2 kj49 true a0_0 l0_1 t543 t544)) else (gangsawlaw39_ProfileMirrored.j2 kj49 true a0_0 l0_1 t543 t544))) = some r:=H
            have A129:=am A1290
            clear A1290
            replace H:=Option.bind_eq_some_iff.mp H
            obtain ⟨⟨t567,t568⟩,A1300,H⟩ := H
            replace H : (if t564 = 0 then (if t566 = 0 then (if t568 = 0 then (if t563 = t565 then (gangsawlaw39_ProfileMirrored.j2 kj49 (t563 != t567) a0_0 l0_1 t543 t544) else (gangsawlaw39_ProfileMirrored.j2 kj49 true a0_0 l0_1 t543 t544)) else (gangsawlaw39_ProfileMirrored.j2 kj49 true a0_0 l0_1 t543 t544)) else (gangsawlaw39_ProfileMirrored.j2 kj49 true a0_0 l0_1 t543 t544)) else (gangsawlaw39_ProfileMirrored.j2 kj49 true a0_0 l0_1 t543 t544)) = some r:=H
            have A130:=am A1300
            clear A1300
            have HC131:=am H
            clear H
            have hnb132:=NB527_535.out
            have hnc132:=NB535_527.out
            have hnb133:=NB527_541.out
            have hnc133:=NB541_527.out
            have hnb134:=NB527_542.out
            have hnc134:=NB542_527.out
            have hnb135:=NB527_548.out
            have hnc135:=NB548_527.out
            have hnb136:=NB527_554.out
            have hnc136:=NB554_527.out
            have hnb137:=NB527_560.out
            have hnc137:=NB560_527.out
            have hcz138_0 : wc.cell? ⟨gb527,0,none⟩ = some (.string a0_0):=(blk_cell BK527.out 0).trans rfl
            have hcz138_1 : wc.cell? ⟨gb527,1,none⟩ = some (.slice A0_1 l0_1.length c0_1):=(blk_cell BK527.out 1).trans rfl
            have hfz138_0:=blk_frozen BK527.out 0
            have hfz138_1:=blk_frozen BK527.out 1
            go_upto_region 19 with (first|((with_reducible refine gate_callee (f:=15) rfl ?_);refine goesL_ (some 106) rfl rfl Try.func15 (by kernel_rfl) rfl #[.agg #[.string a0_0,.slice A0_1 l0_1.length c0_1]] rfl (by (try simp only [mT,mC,mN]);first|done|rfl|(simp only [lDr,lTk];rfl)) ?_;(with_reducible refine (profile_Area.calls kj49 a0_0 _ _ l0_1 t563 t564 _ ?side1 ?side2 A128.out).mono ?_);(case side1=>repeat (first|exact (kB HR0_1.out HB.out)|(with_reducible first|apply kA|apply kN|apply kD)));(case side2=>exact HC0_1.out);rintro e w139 ⟨rfl,hb⟩;refine ⟨_,rfl, ?_⟩;have n0_:=am (Kd.R_below (by (with_reducible repeat (first|apply rA|apply rN|apply rD));exact HO_536001.out) hb);have n1_:=am (Kd.R_below (by (with_reducible repeat (first|apply rA|apply rN|apply rD));exact HO_549001.out) hb);have n2_:=am (Kd.R_below (by (with_reducible repeat (first|apply rA|apply rN|apply rD));exact HO_555001.out) hb);have n3_:=am (Kd.R_below (by (with_reducible repeat (first|apply rA|apply rN|apply rD));exact HO_561001.out) hb);have n4_:=am (blk_below (g:=gb527) (o:=.cells #[.string a0_0,.slice A0_1 l0_1.length c0_1] 25 (0,0)) (by (with_reducible repeat (first|apply bN|apply bD|apply bA));exact BK527.out) hb);have n5_:=am (blk_below (g:=gb535) (o:=.cells #[.string t530,.slice Ao19 t531.length co19] 25 (0,0)) (by (with_reducible repeat (first|apply bN|apply bD|apply bA));exact BK535.out) hb);have n6_:=am (blk_below (g:=gb541) (o:=.cells #[.int .i64 t536,.int .i64 t537] 31 (0,0)) (by (with_reducible repeat (first|apply bN|apply bD|apply bA));exact BK541.out) hb);have n7_:=am (blk_below (g:=gb542) (o:=.cells #[.int .i64 t538,.int .i64 t539] 31 (0,0)) (by (with_reducible repeat (first|apply bN|apply bD|apply bA));exact BK542.out) hb);have n8_:=am (blk_below (g:=gb548) (o:=.cells #[.string t543,.slice Ao62 t544.length co62] 25 (0,0)) (by (with_reducible repeat (first|apply bN|apply bD|apply bA));exact BK548.out) hb);have n9_:=am (blk_below (g:=gb554) (o:=.cells #[.string t549,.slice Ao74 t550.length co74] 25 (0,0)) (by (with_reducible repeat (first|apply bN|apply bD|apply bA));exact BK554.out) hb);have n10_:=am (blk_below (g:=gb560) (o:=.cells #[.string t555,.slice Ao85 t556.length co85] 25 (0,0)) (by (with_reducible repeat (first|apply bN|apply bD|apply bA));exact BK560.out) hb);have n11_:=am (below_step (by repeat (first|(with_reducible first|exact HB.out|apply lA|apply lN|apply lD|refine lS ?_ GE527.out|refine lS ?_ GE535.out|refine lS ?_ GE541.out|refine lS ?_ GE542.out|refine lS ?_ GE548.out|refine lS ?_ GE554.out|refine lS ?_ GE560.out)|exact HB.out)) hb);clear HO_536001;clear HO_549001;clear HO_555001;clear HO_561001;clear BK527;clear BK535;clear BK541;clear BK542;clear BK548;clear BK554;clear BK560;clear HB;have HO_536001:=n0_;have HO_549001:=n1_;have HO_555001:=n2_;have HO_561001:=n3_;have BK527:=n4_;have BK535:=n5_;have BK541:=n6_;have BK542:=n7_;have BK548:=n8_;have BK554:=n9_;have BK560:=n10_;have HB:=n11_;clear n0_ n1_ n2_ n3_ n4_ n5_ n6_ n7_ n8_ n9_ n10_ n11_;(try clear hb);(try clear hb2);(try clear hk);(try clear hi);have hnb140:=NB535_541.out;have hnc140:=NB541_535.out;have hnb141:=NB535_542.out;have hnc141:=NB542_535.out;have hnb142:=NB535_548.out;have hnc142:=NB548_535.out;have hnb143:=NB535_554.out;have hnc143:=NB554_535.out;have hnb144:=NB535_560.out;have hnc144:=NB560_535.out;have hcz145_0 : w139.cell? ⟨gb535,0,none⟩ = some (.string t530):=(blk_cell BK535.out 0).trans rfl;have hcz145_1 : w139.cell? ⟨gb535,1,none⟩ = some (.slice Ao19 t531.length co19):=(blk_cell BK535.out 1).trans rfl;have hfz145_0:=blk_frozen BK535.out 0;have hfz145_1:=blk_frozen BK535.out 1)|((with_reducible refine gate_callee (f:=15) rfl ?_);refine goesL_ (some 111) rfl rfl Try.func15 (by kernel_rfl) rfl #[.agg #[.string t530,.slice Ao19 t531.length co19]] rfl (by (try simp only [mT,mC,mN]);first|done|rfl|(simp only [lDr,lTk];rfl)) ?_;(with_reducible refine (profile_Area.calls kj49 t530 _ _ t531 t565 t566 _ ?side1 ?side2 A129.out).mono ?_);(case side1=>repeat (first|exact (Kd.R_reads' HO_536001.out).2.2|(with_reducible first|apply kA|apply kN|apply kD)));(case side2=>exact (Kd.R_reads' HO_536001.out).2.1);rintro e w146 ⟨rfl,hb⟩;refine ⟨_,rfl, ?_⟩;have n0_:=am (Kd.R_below (by (with_reducible repeat (first|apply rA|apply rN|apply rD));exact HO_536001.out) hb);have n1_:=am (Kd.R_below (by (with_reducible repeat (first|apply rA|apply rN|apply rD));exact HO_549001.out) hb);have n2_:=am (Kd.R_below (by (with_reducible repeat (first|apply rA|apply rN|apply rD));exact HO_555001.out) hb);have n3_:=am (Kd.R_below (by (with_reducible repeat (first|apply rA|apply rN|apply rD));exact HO_561001.out) hb);have n4_:=am (blk_below (g:=gb527) (o:=.cells #[.string a0_0,.slice A0_1 l0_1.length c0_1] 25 (0,0)) (by (with_reducible repeat (first|apply bN|apply bD|apply bA));exact BK527.out) hb);have n5_:=am (blk_below (g:=gb535) (o:=.cells #[.string t530,.slice Ao19 t531.length co19] 25 (0,0)) (by (with_reducible repeat (first|apply bN|apply bD|apply bA));exact BK535.out) hb);have n6_:=am (blk_below (g:=gb541) (o:=.cells #[.int .i64 t536,.int .i64 t537] 31 (0,0)) (by (with_reducible repeat (first|apply bN|apply bD|apply bA));exact BK541.out) hb);have n7_:=am (blk_below (g:=gb542) (o:=.cells #[.int .i64 t538,.int .i64 t539] 31 (0,0)) (by (with_reducible repeat (first|apply bN|apply bD|apply bA));exact BK542.out) hb);have n8_:=am (blk_below (g:=gb548) (o:=.cells #[.string t543,.slice Ao62 t544.length co62] 25 (0,0)) (by (with_reducible repeat (first|apply bN|apply bD|apply bA));exact BK548.out) hb);have n9_:=am (blk_below (g:=gb554) (o:=.cells #[.string t549,.slice Ao74 t550.length co74] 25 (0,0)) (by (with_reducible repeat (first|apply bN|apply bD|apply bA));exact BK554.out) hb);have n10_:=am (blk_below (g:=gb560) (o:=.cells #[.string t555,.slice Ao85 t556.length co85] 25 (0,0)) (by (with_reducible repeat (first|apply bN|apply bD|apply bA));exact BK560.out) hb);have n11_:=am (below_step (by repeat (first|(with_reducible first|exact HB.out|apply lA|apply lN|apply lD|refine lS ?_ GE527.out|refine lS ?_ GE535.out|refine lS ?_ GE541.out|refine lS ?_ GE542.out|refine lS ?_ GE548.out|refine lS ?_ GE554.out|refine lS ?_ GE560.out)|exact HB.out)) hb);clear HO_536001;clear HO_549001;clear HO_555001;clear HO_561001;clear BK527;clear BK535;clear BK541;clear BK542;clear BK548;clear BK554;clear BK560;clear HB;have HO_536001:=n0_;have HO_549001:=n1_;have HO_555001:=n2_;have HO_561001:=n3_;have BK527:=n4_;have BK535:=n5_;have BK541:=n6_;have BK542:=n7_;have BK548:=n8_;have BK554:=n9_;have BK560:=n10_;have HB:=n11_;clear n0_ n1_ n2_ n3_ n4_ n5_ n6_ n7_ n8_ n9_ n10_ n11_;(try clear hb);(try clear hb2);(try clear hk);(try clear hi);have hnb147:=NB548_541.out;have hnc147:=NB541_548.out;have hnb148:=NB548_542.out;have hnc148:=NB542_548.out;have hnb149:=NB548_554.out;have hnc149:=NB554_548.out;have hnb150:=NB548_560.out;have hnc150:=NB560_548.out;have hcz151_0 : w146.cell? ⟨gb548,0,none⟩ = some (.string t543):=(blk_cell BK548.out 0).trans rfl;have hcz151_1 : w146.cell? ⟨gb548,1,none⟩ = some (.slice Ao62 t544.length co62):=(blk_cell BK548.out 1).trans rfl;have hfz151_0:=blk_frozen BK548.out 0;have hfz151_1:=blk_frozen BK548.out 1)|((with_reducible refine gate_callee (f:=15) rfl ?_);refine goesL_ (some 116) rfl rfl Try.func15 (by kernel_rfl) rfl #[.agg #[.string t543,.slice Ao62 t544.length co62]] rfl (by (try simp only [mT,mC,mN]);first|done|rfl|(simp only [lDr,lTk];rfl)) ?_;(with_reducible refine (profile_Area.calls kj49 t543 _ _ t544 t567 t568 _ ?side1 ?side2 A130.out).mono ?_);(case side1=>repeat (first|exact (Kd.R_reads' HO_549001.out).2.2|(with_reducible first|apply kA|apply kN|apply kD)));(case side2=>exact (Kd.R_reads' HO_549001.out).2.1);rintro e w152 ⟨rfl,hb⟩;refine ⟨_,rfl, ?_⟩;have n0_:=am (Kd.R_below (by (with_reducible repeat (first|apply rA|apply rN|apply rD));exact HO_536001.out) hb);have n1_:=am (Kd.R_below (by (with_reducible repeat (first|apply rA|apply rN|apply rD));exact HO_549001.out) hb);have n2_:=am (Kd.R_below (by (with_reducible repeat (first|apply rA|apply rN|apply rD));exact HO_555001.out) hb);have n3_:=am (Kd.R_below (by (with_reducible repeat (first|apply rA|apply rN|apply rD));exact HO_561001.out) hb);have n4_:=am (blk_below (g:=gb527) (o:=.cells #[.string a0_0,.slice A0_1 l0_1.length c0_1] 25 (0,0)) (by (with_reducible repeat (first|apply bN|apply bD|apply bA));exact BK527.out) hb);have n5_:=am (blk_below (g:=gb535) (o:=.cells #[.string t530,.slice Ao19 t531.length co19] 25 (0,0)) (by (with_reducible repeat (first|apply bN|apply bD|apply bA));exact BK535.out) hb);have n6_:=am (blk_below (g:=gb541) (o:=.cells #[.int .i64 t536,.int .i64 t537] 31 (0,0)) (by (with_reducible repeat (first|apply bN|apply bD|apply bA));exact BK541.out) hb);have n7_:=am (blk_below (g:=gb542) (o:=.cells #[.int .i64 t538,.int .i64 t539] 31 (0,0)) (by (with_reducible repeat (first|apply bN|apply bD|apply bA));exact BK542.out) hb);have n8_:=am (blk_below (g:=gb548) (o:=.cells #[.string t543,.slice Ao62 t544.length co62] 25 (0,0)) (by (with_reducible repeat (first|apply bN|apply bD|apply bA));exact BK548.out) hb);have n9_:=am (blk_below (g:=gb554) (o:=.cells #[.string t549,.slice Ao74 t550.length co74] 25 (0,0)) (by (with_reducible repeat (first|apply bN|apply bD|apply bA));exact BK554.out) hb);have n10_:=am (blk_below (g:=gb560) (o:=.cells #[.string t555,.slice Ao85 t556.length co85] 25 (0,0)) (by (with_reducible repeat (first|apply bN|apply bD|apply bA));exact BK560.out) hb);have n11_:=am (below_step (by repeat (first|(with_reducible first|exact HB.out|apply lA|apply lN|apply lD|refine lS ?_ GE527.out|refine lS ?_ GE535.out|refine lS ?_ GE541.out|refine lS ?_ GE542.out|refine lS ?_ GE548.out|refine lS ?_ GE554.out|refine lS ?_ GE560.out)|exact HB.out)) hb);clear HO_536001;clear HO_549001;clear HO_555001;clear HO_561001;clear BK527;clear BK535;clear BK541;clear BK542;clear BK548;clear BK554;clear BK560;clear HB;have HO_536001:=n0_;have HO_549001:=n1_;have HO_555001:=n2_;have HO_561001:=n3_;have BK527:=n4_;have BK535:=n5_;have BK541:=n6_;have BK542:=n7_;have BK548:=n8_;have BK554:=n9_;have BK560:=n10_;have HB:=n11_;clear n0_ n1_ n2_ n3_ n4_ n5_ n6_ n7_ n8_ n9_ n10_ n11_;(try clear hb);(try clear hb2);(try clear hk);(try clear hi)))
            (try simp only [Act.put,sA,s0,sS])
            go_cut [138] (fun v138 wc=>∃ (kq : Nat) (x138_130 : Bool),v138 = .bool x138_130 ∧ Aside0 (gangsawlaw39_ProfileMirrored.j2 kq x138_130 a0_0 l0_1 t543 t544 = some r) ∧ Aside0 (kq ≤ kj49) ∧ Aside0 (Kd.R k31 31 wc w.heap.size (fun k_=>some k_ ≠ ((.slice Ao62 t544.length co62) : Value).ownBlock ∧ some k_ ≠ ((.slice Ao74 t550.length co74) : Value).ownBlock ∧ some k_ ≠ ((.slice Ao85 t556.length co85) : Value).ownBlock ∧ k_ ≠ gb541 ∧ k_ ≠ gb542) (.slice Ao19 t531.length co19) t531) ∧ Aside0 (Kd.R k31 31 wc w.heap.size (fun k_=>some k_ ≠ ((.slice Ao19 t531.length co19) : Value).ownBlock ∧ some k_ ≠ ((.slice Ao74 t550.length co74) : Value).ownBlock ∧ some k_ ≠ ((.slice Ao85 t556.length co85) : Value).ownBlock ∧ k_ ≠ gb541 ∧ k_ ≠ gb542) (.slice Ao62 t544.length co62) t544) ∧ Aside0 (Kd.R k31 31 wc w.heap.size (fun k_=>some k_ ≠ ((.slice Ao19 t531.length co19) : Value).ownBlock ∧ some k_ ≠ ((.slice Ao62 t544.length co62) : Value).ownBlock ∧ some k_ ≠ ((.slice Ao85 t556.length co85) : Value).ownBlock ∧ k_ ≠ gb541 ∧ k_ ≠ gb542) (.slice Ao74 t550.length co74) t550) ∧ Aside0 (Kd.R k31 31 wc w.heap.size (fun k_=>some k_ ≠ ((.slice Ao19 t531.length co19) : Value).ownBlock ∧ some k_ ≠ ((.slice Ao62 t544.length co62) : Value).ownBlock ∧ some k_ ≠ ((.slice Ao74 t550.length co74) : Value).ownBlock ∧ k_ ≠ gb541 ∧ k_ ≠ gb542) (.slice Ao85 t556.length co85) t556) ∧ Aside0 (wc.heap[gb527]? = some (.cells #[.string a0_0,(.slice A0_1 l0_1.length c0_1)] 25 (0,0))) ∧ Aside0 (wc.heap[gb535]? = some (.cells #[.string t530,(.slice Ao19 t531.length co19)] 25 (0,0))) ∧ Aside0 (wc.heap[gb541]? = some (.cells #[.int .i64 t536,.int .i64 t537] 31 (0,0))) ∧ Aside0 (wc.heap[gb542]? = some (.cells #[.int .i64 t538,.int .i64 t539] 31 (0,0))) ∧ Aside0 (wc.heap[gb548]? = some (.cells #[.string t543,(.slice Ao62 t544.length co62)] 25 (0,0))) ∧ Aside0 (wc.heap[gb554]? = some (.cells #[.string t549,(.slice Ao74 t550.length co74)] 25 (0,0))) ∧ Aside0 (wc.heap[gb560]? = some (.cells #[.string t555,(.slice Ao85 t556.length co85)] 25 (0,0))) ∧ Aside0 (Below w.heap.size w wc))
            case first =>
             as_aux_lemma =>
              have H:=HC131.out
              clear HC131
              by_cases c153 : t564 = 0
              ·rw [if_pos c153] at H
               have c153b0 : (t564 == 0) = true:=beq_iff_eq.mpr c153
               have c153b1 : (t564 != 0) = false:=bne_eq_false_iff_eq.mpr c153
               clear c153
               (first|rw [c153b0]|(simp only [i64_w,i32_w];rw [c153b0])|skip)
               by_cases c154 : t566 = 0
               ·rw [if_pos c154] at H
                have c154b0 : (t566 == 0) = true:=beq_iff_eq.mpr c154
                have c154b1 : (t566 != 0) = false:=bne_eq_false_iff_eq.mpr c154
                clear c154
                by_cases c155 : t568 = 0
                ·rw [if_pos c155] at H
                 have c155b0 : (t568 == 0) = true:=beq_iff_eq.mpr c155
                 have c155b1 : (t568 != 0) = false:=bne_eq_false_iff_eq.mpr c155
                 clear c155
                 by_cases c156 : t563 = t565
                 ·rw [if_pos c156] at H
                  have c156b0 : (t563 == t565) = true:=beq_iff_eq.mpr c156
                  have c156b1 : (t563 != t565) = false:=bne_eq_false_iff_eq.mpr c156
                  clear c156
                  have H':=am H
                  clear H
                  go_wp2
                  go_meet
                  case rel=>exact ⟨_,((t563 != t567)),(by first|rfl|(simp;done)|(simp [*];done)),H',⟨by have:=HJ8.out;have:=HJ49.out;first|omega|exact Nat.le_refl _⟩,⟨by (with_reducible repeat (first|apply rA|apply rN|apply rD));exact HO_536001.out⟩,⟨by (with_reducible repeat (first|apply rA|apply rN|apply rD));exact HO_549001.out⟩,⟨by (with_reducible repeat (first|apply rA|apply rN|apply rD));exact HO_555001.out⟩,⟨by (with_reducible repeat (first|apply rA|apply rN|apply rD));exact HO_561001.out⟩,⟨by (with_reducible repeat (first|apply bN|apply bD|apply bA));exact BK527.out⟩,⟨by (with_reducible repeat (first|apply bN|apply bD|apply bA));exact BK535.out⟩,⟨by (with_reducible repeat (first|apply bN|apply bD|apply bA));exact BK541.out⟩,⟨by (with_reducible repeat (first|apply bN|apply bD|apply bA));exact BK542.out⟩,⟨by (with_reducible repeat (first|apply bN|apply bD|apply bA));exact BK548.out⟩,⟨by (with_reducible repeat (first|apply bN|apply bD|apply bA));exact BK554.out⟩,⟨by (with_reducible repeat (first|apply bN|apply bD|apply bA));exact BK560.out⟩,⟨by repeat (first|(with_reducible first|exact HB.out|apply lA|apply lN|apply lD|refine lS ?_ GE527.out|refine lS ?_ GE535.out|refine lS ?_ GE541.out|refine lS ?_ GE542.out|refine lS ?_ GE548.out|refine lS ?_ GE554.out|refine lS ?_ GE560.out)|exact HB.out)⟩⟩
                 ·rw [if_neg c156] at H
                  have c156b0 : (t563 == t565) = false:=beq_eq_false_iff_ne.mpr c156
                  have c156b1 : (t563 != t565) = true:=bne_iff_ne.mpr c156
                  exact absurd H (by cases kj49 <;> simp [gangsawlaw39_ProfileMirrored.j2])
                ·rw [if_neg c155] at H
                 have c155b0 : (t568 == 0) = false:=beq_eq_false_iff_ne.mpr c155
                 have c155b1 : (t568 != 0) = true:=bne_iff_ne.mpr c155
                 exact absurd H (by cases kj49 <;> simp [gangsawlaw39_ProfileMirrored.j2])
               ·rw [if_neg c154] at H
                have c154b0 : (t566 == 0) = false:=beq_eq_false_iff_ne.mpr c154
                have c154b1 : (t566 != 0) = true:=bne_iff_ne.mpr c154
                exact absurd H (by cases kj49 <;> simp [gangsawlaw39_ProfileMirrored.j2])
              ·rw [if_neg c153] at H
               have c153b0 : (t564 == 0) = false:=beq_eq_false_iff_ne.mpr c153
               have c153b1 : (t564 != 0) = true:=bne_iff_ne.mpr c153
               (first|rw [c153b0]|(simp only [i64_w,i32_w];rw [c153b0])|skip)
               exact absurd H (by cases kj49 <;> simp [gangsawlaw39_ProfileMirrored.j2])
            case rest =>
             as_aux_lemma =>
              clear HC131
              try clear c1
              try clear c2
              try clear p2
              try clear c3
              try clear c4
              try clear c5
              try clear c6
              try clear c7
              try clear c7b0
              try clear c7b1
              try clear c8
              try clear c9
              try clear c10
              try clear c11
              try clear c12
              try clear c13
              try clear c14
              try clear c15
              try clear c17
              try clear c20
              try clear c21
              try clear c24
              try clear c25
              try clear c26
              try clear c28
              try clear c29
              try clear c31
              try clear c31b0
              try clear c31b1
              try clear c32
              try clear c32b0
              try clear c33
              try clear c34
              try clear c35
              try clear c37
              try clear c38
              try clear c39
              try clear c41
              try clear c42
              try clear c42b0
              try clear c42b1
              try clear c43
              try clear c44
              try clear c45
              try clear c51
              try clear c52
              try clear c53
              try clear c57
              try clear c58
              try clear c59
              try clear c60
              try clear c63
              try clear c64
              try clear c68
              try clear c69
              try clear c70
              try clear c71
              try clear c72
              try clear c78
              try clear c79
              try clear c80
              try clear c81
              try clear c82
              try clear c83
              try clear c86
              try clear c86b0
              try clear c86b1
              try clear c87
              try clear c87b0
              try clear c87b1
              try clear c88
              try clear c88b0
              try clear c88b1
              try clear c90
              try clear c92
              try clear c93
              try clear c94
              try clear c95
              try clear c96
              try clear c97
              try clear c99
              try clear c100
              try clear c101
              try clear c102
              try clear c103
              try clear c107
              try clear c108
              try clear c109
              try clear c110
              try clear c113
              try clear c114
              try clear c115
              try clear c116
              try clear c117
              try clear c118
              try clear c120
              try clear c121
              try clear c122
              try clear c123
              try clear c124
              try clear c127
              try clear c132
              try clear c133
              try clear c134
              try clear c135
              try clear c136
              try clear c137
              try clear c140
              try clear c141
              try clear c142
              try clear c143
              try clear c144
              try clear c147
              try clear c148
              try clear c149
              try clear c150
              try clear c153
              try clear c153b0
              try clear c153b1
              try clear c154
              try clear c154b0
              try clear c154b1
              try clear c155
              try clear c155b0
              try clear c155b1
              try clear c156
              try clear c156b0
              try clear c156b1
              try clear hcz104_0
              try clear hcz104_1
              try clear hcz106_0
              try clear hcz106_1
              try clear hcz111_0
              try clear hcz111_1
              try clear hcz119_0
              try clear hcz119_1
              try clear hcz125_0
              try clear hcz125_1
              try clear hcz12_0
              try clear hcz12_1
              try clear hcz138_0
              try clear hcz138_1
              try clear hcz145_0
              try clear hcz145_1
              try clear hcz14_0
              try clear hcz14_1
              try clear hcz151_0
              try clear hcz151_1
              try clear hcz18_0
              try clear hcz18_1
              try clear hcz20_0
              try clear hcz20_1
              try clear hcz27_0
              try clear hcz27_1
              try clear hcz30_0
              try clear hcz30_1
              try clear hcz36_0
              try clear hcz36_1
              try clear hcz40_0
              try clear hcz40_1
              try clear hcz46_0
              try clear hcz46_1
              try clear hcz54_0
              try clear hcz54_1
              try clear hcz61_0
              try clear hcz61_1
              try clear hcz65_0
              try clear hcz65_1
              try clear hcz73_0
              try clear hcz73_1
              try clear hcz75_0
              try clear hcz75_1
              try clear hcz84_0
              try clear hcz84_1
              try clear hcz98_0
              try clear hcz98_1
              try clear hfz104_0
              try clear hfz104_1
              try clear hfz106_0
              try clear hfz106_1
              try clear hfz111_0
              try clear hfz111_1
              try clear hfz119_0
              try clear hfz119_1
              try clear hfz125_0
              try clear hfz125_1
              try clear hfz12_0
              try clear hfz12_1
              try clear hfz138_0
              try clear hfz138_1
              try clear hfz145_0
              try clear hfz145_1
              try clear hfz14_0
              try clear hfz14_1
              try clear hfz151_0
              try clear hfz151_1
              try clear hfz18_0
              try clear hfz18_1
              try clear hfz20_0
              try clear hfz20_1
              try clear hfz27_0
              try clear hfz27_1
              try clear hfz30_0
              try clear hfz30_1
              try clear hfz36_0
              try clear hfz36_1
              try clear hfz40_0
              try clear hfz40_1
              try clear hfz46_0
              try clear hfz46_1
              try clear hfz54_0
              try clear hfz54_1
              try clear hfz61_0
              try clear hfz61_1
              try clear hfz65_0
              try clear hfz65_1
              try clear hfz73_0
              try clear hfz73_1
              try clear hfz75_0
              try clear hfz75_1
              try clear hfz84_0
              try clear hfz84_1
              try clear hfz98_0
              try clear hfz98_1
              try clear p2
              obtain ⟨kq,x138_130,rfl,HA,HJ130,HO_536001,HO_549001,HO_555001,HO_561001,BK527,BK535,BK541,BK542,BK548,BK554,BK560,HB⟩ := hcut
              cases kq with
              | zero=>exact absurd HA.out (by simp [gangsawlaw39_ProfileMirrored.j2])
              | succ kj130 =>
               have H:=HA.out
               clear HA
               simp only [gangsawlaw39_ProfileMirrored.j2] at H
               by_cases c157 : x138_130 = true
               ·subst c157
                have H1 : (none) = some r:=by rw [if_pos rfl] at H;exact H
                clear H
                have H:=H1
                clear H1
                exact absurd H (by simp)
               ·replace c157:=Bool.eq_false_iff.mpr c157
                subst c157
                have H1 : (gangsawlaw39_ProfileMirrored.l0 kj130 0 a0_0 l0_1 t543 t544) = some r:=by rw [if_neg (show ¬ (false = true) by decide)] at H;exact H
                clear H
                have H:=H1
                clear H1
                have H':=am H
                clear H
                go_wp2
                go_loopg [20] kj130 (fun kq v20 w'=>∃ (x20_4 : Int),v20 = .int .i64 x20_4 ∧ Aside0 (gangsawlaw39_ProfileMirrored.l0 kq x20_4 a0_0 l0_1 t543 t544 = some r) ∧ Aside0 (kq ≤ kj130) ∧ Aside0 (Kd.R k31 31 w' w.heap.size (fun k_=>some k_ ≠ ((.slice Ao62 t544.length co62) : Value).ownBlock ∧ some k_ ≠ ((.slice Ao74 t550.length co74) : Value).ownBlock ∧ some k_ ≠ ((.slice Ao85 t556.length co85) : Value).ownBlock ∧ k_ ≠ gb541 ∧ k_ ≠ gb542) (.slice Ao19 t531.length co19) t531) ∧ Aside0 (Kd.R k31 31 w' w.heap.size (fun k_=>some k_ ≠ ((.slice Ao19 t531.length co19) : Value).ownBlock ∧ some k_ ≠ ((.slice Ao74 t550.length co74) : Value).ownBlock ∧ some k_ ≠ ((.slice Ao85 t556.length co85) : Value).ownBlock ∧ k_ ≠ gb541 ∧ k_ ≠ gb542) (.slice Ao62 t544.length co62) t544) ∧ Aside0 (Kd.R k31 31 w' w.heap.size (fun k_=>some k_ ≠ ((.slice Ao19 t531.length co19) : Value).ownBlock ∧ some k_ ≠ ((.slice Ao62 t544.length co62) : Value).ownBlock ∧ some k_ ≠ ((.slice Ao85 t556.length co85) : Value).ownBlock ∧ k_ ≠ gb541 ∧ k_ ≠ gb542) (.slice Ao74 t550.length co74) t550) ∧ Aside0 (Kd.R k31 31 w' w.heap.size (fun k_=>some k_ ≠ ((.slice Ao19 t531.length co19) : Value).ownBlock ∧ some k_ ≠ ((.slice Ao62 t544.length co62) : Value).ownBlock ∧ some k_ ≠ ((.slice Ao74 t550.length co74) : Value).ownBlock ∧ k_ ≠ gb541 ∧ k_ ≠ gb542) (.slice Ao85 t556.length co85) t556) ∧ Aside0 (w'.heap[gb527]? = some (.cells #[.string a0_0,(.slice A0_1 l0_1.length c0_1)] 25 (0,0))) ∧ Aside0 (w'.heap[gb535]? = some (.cells #[.string t530,(.slice Ao19 t531.length co19)] 25 (0,0))) ∧ Aside0 (w'.heap[gb541]? = some (.cells #[.int .i64 t536,.int .i64 t537] 31 (0,0))) ∧ Aside0 (w'.heap[gb542]? = some (.cells #[.int .i64 t538,.int .i64 t539] 31 (0,0))) ∧ Aside0 (w'.heap[gb548]? = some (.cells #[.string t543,(.slice Ao62 t544.length co62)] 25 (0,0))) ∧ Aside0 (w'.heap[gb554]? = some (.cells #[.string t549,(.slice Ao74 t550.length co74)] 25 (0,0))) ∧ Aside0 (w'.heap[gb560]? = some (.cells #[.string t555,(.slice Ao85 t556.length co85)] 25 (0,0))) ∧ Aside0 (Below w.heap.size w w'))
                case atStart=>exact ⟨(0),(by first|rfl|(simp;done)|(simp [*];done)),H',⟨Nat.le_refl _⟩,⟨by (with_reducible repeat (first|apply rA|apply rN|apply rD));exact HO_536001.out⟩,⟨by (with_reducible repeat (first|apply rA|apply rN|apply rD));exact HO_549001.out⟩,⟨by (with_reducible repeat (first|apply rA|apply rN|apply rD));exact HO_555001.out⟩,⟨by (with_reducible repeat (first|apply rA|apply rN|apply rD));exact HO_561001.out⟩,⟨by (with_reducible repeat (first|apply bN|apply bD|apply bA));exact BK527.out⟩,⟨by (with_reducible repeat (first|apply bN|apply bD|apply bA));exact BK535.out⟩,⟨by (with_reducible repeat (first|apply bN|apply bD|apply bA));exact BK541.out⟩,⟨by (with_reducible repeat (first|apply bN|apply bD|apply bA));exact BK542.out⟩,⟨by (with_reducible repeat (first|apply bN|apply bD|apply bA));exact BK548.out⟩,⟨by (with_reducible repeat (first|apply bN|apply bD|apply bA));exact BK554.out⟩,⟨by (with_reducible repeat (first|apply bN|apply bD|apply bA));exact BK560.out⟩,⟨by repeat (first|(with_reducible first|exact HB.out|apply lA|apply lN|apply lD|refine lS ?_ GE527.out|refine lS ?_ GE535.out|refine lS ?_ GE541.out|refine lS ?_ GE542.out|refine lS ?_ GE548.out|refine lS ?_ GE554.out|refine lS ?_ GE560.out)|exact HB.out)⟩⟩
                case round =>
                 as_aux_lemma =>
                  clear H'
                  try clear c1
                  try clear c2
                  try clear p2
                  try clear c3
                  try clear c4
                  try clear c5
                  try clear c6
                  try clear c7
                  try clear c7b0
                  try clear c7b1
                  try clear c8
                  try clear c9
                  try clear c10
                  try clear c11
                  try clear c12
                  try clear c13
                  try clear c14
                  try clear c15
                  try clear c17
                  try clear c20
                  try clear c21
                  try clear c24
                  try clear c25
                  try clear c26
                  try clear c28
                  try clear c29
                  try clear c31
                  try clear c31b0
                  try clear c31b1
                  try clear c32
                  try clear c32b0
                  try clear c33
                  try clear c34
                  try clear c35
                  try clear c37
                  try clear c38
                  try clear c39
                  try clear c41
                  try clear c42
                  try clear c42b0
                  try clear c42b1
                  try clear c43
                  try clear c44
                  try clear c45
                  try clear c51
                  try clear c52
                  try clear c53
                  try clear c57
                  try clear c58
                  try clear c59
                  try clear c60
                  try clear c63
                  try clear c64
                  try clear c68
                  try clear c69
                  try clear c70
                  try clear c71
                  try clear c72
                  try clear c78
                  try clear c79
                  try clear c80
                  try clear c81
                  try clear c82
                  try clear c83
                  try clear c86
                  try clear c86b0
                  try clear c86b1
                  try clear c87
                  try clear c87b0
                  try clear c87b1
                  try clear c88
                  try clear c88b0
                  try clear c88b1
                  try clear c90
                  try clear c92
                  try clear c93
                  try clear c94
                  try clear c95
                  try clear c96
                  try clear c97
                  try clear c99
                  try clear c100
                  try clear c101
                  try clear c102
                  try clear c103
                  try clear c107
                  try clear c108
                  try clear c109
                  try clear c110
                  try clear c113
                  try clear c114
                  try clear c115
                  try clear c116
                  try clear c117
                  try clear c118
                  try clear c120
                  try clear c121
                  try clear c122
                  try clear c123
                  try clear c124
                  try clear c127
                  try clear c132
                  try clear c133
                  try clear c134
                  try clear c135
                  try clear c136
                  try clear c137
                  try clear c140
                  try clear c141
                  try clear c142
                  try clear c143
                  try clear c144
                  try clear c147
                  try clear c148
                  try clear c149
                  try clear c150
                  try clear c153
                  try clear c153b0
                  try clear c153b1
                  try clear c154
                  try clear c154b0
                  try clear c154b1
                  try clear c155
                  try clear c155b0
                  try clear c155b1
                  try clear c156
                  try clear c156b0
                  try clear c156b1
                  try clear c157
                  try clear hcz104_0
                  try clear hcz104_1
                  try clear hcz106_0
                  try clear hcz106_1
                  try clear hcz111_0
                  try clear hcz111_1
                  try clear hcz119_0
                  try clear hcz119_1
                  try clear hcz125_0
                  try clear hcz125_1
                  try clear hcz12_0
                  try clear hcz12_1
                  try clear hcz138_0
                  try clear hcz138_1
                  try clear hcz145_0
                  try clear hcz145_1
                  try clear hcz14_0
                  try clear hcz14_1
                  try clear hcz151_0
                  try clear hcz151_1
                  try clear hcz18_0
                  try clear hcz18_1
                  try clear hcz20_0
                  try clear hcz20_1
                  try clear hcz27_0
                  try clear hcz27_1
                  try clear hcz30_0
                  try clear hcz30_1
                  try clear hcz36_0
                  try clear hcz36_1
                  try clear hcz40_0
                  try clear hcz40_1
                  try clear hcz46_0
                  try clear hcz46_1
                  try clear hcz54_0
                  try clear hcz54_1
                  try clear hcz61_0
                  try clear hcz61_1
                  try clear hcz65_0
                  try clear hcz65_1
                  try clear hcz73_0
                  try clear hcz73_1
                  try clear hcz75_0
                  try clear hcz75_1
                  try clear hcz84_0
                  try clear hcz84_1
                  try clear hcz98_0
                  try clear hcz98_1
                  try clear hfz104_0
                  try clear hfz104_1
                  try clear hfz106_0
                  try clear hfz106_1
                  try clear hfz111_0
                  try clear hfz111_1
                  try clear hfz119_0
                  try clear hfz119_1
                  try clear hfz125_0
                  try clear hfz125_1
                  try clear hfz12_0
                  try clear hfz12_1
                  try clear hfz138_0
                  try clear hfz138_1
                  try clear hfz145_0
                  try clear hfz145_1
                  try clear hfz14_0
                  try clear hfz14_1
                  try clear hfz151_0
                  try clear hfz151_1
                  try clear hfz18_0
                  try clear hfz18_1
                  try clear hfz20_0
                  try clear hfz20_1
                  try clear hfz27_0
                  try clear hfz27_1
                  try clear hfz30_0
                  try clear hfz30_1
                  try clear hfz36_0
                  try clear hfz36_1
                  try clear hfz40_0
                  try clear hfz40_1
                  try clear hfz46_0
                  try clear hfz46_1
                  try clear hfz54_0
                  try clear hfz54_1
                  try clear hfz61_0
                  try clear hfz61_1
                  try clear hfz65_0
                  try clear hfz65_1
                  try clear hfz73_0
                  try clear hfz73_1
                  try clear hfz75_0
                  try clear hfz75_1
                  try clear hfz84_0
                  try clear hfz84_1
                  try clear hfz98_0
                  try clear hfz98_1
                  try clear p2
                  obtain ⟨x20_4,rfl,HA,HK4,HO_536001,HO_549001,HO_555001,HO_561001,BK527,BK535,BK541,BK542,BK548,BK554,BK560,HB⟩ := hrel
                  cases gk with
                  | zero=>exact absurd HA.out (by simp [gangsawlaw39_ProfileMirrored.l0])
                  | succ k4 =>
                   have H:=HA.out
                   clear HA
                   simp only [gangsawlaw39_ProfileMirrored.l0] at H
                   by_cases c158 : x20_4 < 4
                   ·rw [if_pos c158] at H
                    have c158b0 : decide (x20_4 < 4) = true:=decide_eq_true c158
                    clear c158
                    have HC159:=am H
                    clear H
                    go_upto_if 145 with (fail)
                    go_cut [21] (fun v21 wc=>∃ (kq : Nat) (x21_158 : Int),v21 = .int .i64 x21_158 ∧ Aside0 (gangsawlaw39_ProfileMirrored.j4 kq x20_4 x21_158 a0_0 l0_1 t543 t544 = some r) ∧ Aside0 (kq ≤ k4) ∧ Aside0 (Kd.R k31 31 wc w.heap.size (fun k_=>some k_ ≠ ((.slice Ao62 t544.length co62) : Value).ownBlock ∧ some k_ ≠ ((.slice Ao74 t550.length co74) : Value).ownBlock ∧ some k_ ≠ ((.slice Ao85 t556.length co85) : Value).ownBlock ∧ k_ ≠ gb541 ∧ k_ ≠ gb542) (.slice Ao19 t531.length co19) t531) ∧ Aside0 (Kd.R k31 31 wc w.heap.size (fun k_=>some k_ ≠ ((.slice Ao19 t531.length co19) : Value).ownBlock ∧ some k_ ≠ ((.slice Ao74 t550.length co74) : Value).ownBlock ∧ some k_ ≠ ((.slice Ao85 t556.length co85) : Value).ownBlock ∧ k_ ≠ gb541 ∧ k_ ≠ gb542) (.slice Ao62 t544.length co62) t544) ∧ Aside0 (Kd.R k31 31 wc w.heap.size (fun k_=>some k_ ≠ ((.slice Ao19 t531.length co19) : Value).ownBlock ∧ some k_ ≠ ((.slice Ao62 t544.length co62) : Value).ownBlock ∧ some k_ ≠ ((.slice Ao85 t556.length co85) : Value).ownBlock ∧ k_ ≠ gb541 ∧ k_ ≠ gb542) (.slice Ao74 t550.length co74) t550) ∧ Aside0 (Kd.R k31 31 wc w.heap.size (fun k_=>some k_ ≠ ((.slice Ao19 t531.length co19) : Value).ownBlock ∧ some k_ ≠ ((.slice Ao62 t544.length co62) : Value).ownBlock ∧ some k_ ≠ ((.slice Ao74 t550.length co74) : Value).ownBlock ∧ k_ ≠ gb541 ∧ k_ ≠ gb542) (.slice Ao85 t556.length co85) t556) ∧ Aside0 (wc.heap[gb527]? = some (.cells #[.string a0_0,(.slice A0_1 l0_1.length c0_1)] 25 (0,0))) ∧ Aside0 (wc.heap[gb535]? = some (.cells #[.string t530,(.slice Ao19 t531.length co19)] 25 (0,0))) ∧ Aside0 (wc.heap[gb541]? = some (.cells #[.int .i64 t536,.int .i64 t537] 31 (0,0))) ∧ Aside0 (wc.heap[gb542]? = some (.cells #[.int .i64 t538,.int .i64 t539] 31 (0,0))) ∧ Aside0 (wc.heap[gb548]? = some (.cells #[.string t543,(.slice Ao62 t544.length co62)] 25 (0,0))) ∧ Aside0 (wc.heap[gb554]? = some (.cells #[.string t549,(.slice Ao74 t550.length co74)] 25 (0,0))) ∧ Aside0 (wc.heap[gb560]? = some (.cells #[.string t555,(.slice Ao85 t556.length co85)] 25 (0,0))) ∧ Aside0 (Below w.heap.size w wc))
                    case first =>
                     as_aux_lemma =>
                      have H:=HC159.out
                      clear HC159
                      by_cases c160 : x20_4 < 2
                      ·rw [if_pos c160] at H
                       have c160b0 : decide (x20_4 < 2) = true:=decide_eq_true c160
                       clear c160
                       (first|rw [c160b0]|(simp only [i64_w,i32_w];rw [c160b0])|skip)
                       have H':=am H
                       clear H
                       go_wp2
                       go_meet
                       case rel=>exact ⟨_,(wrap64 (1 - x20_4)),(by first|rfl|(simp;done)|(simp [*];done)),H',⟨by have:=HJ8.out;have:=HJ49.out;have:=HJ130.out;have:=HK4.out;first|omega|exact Nat.le_refl _⟩,⟨by (with_reducible repeat (first|apply rA|apply rN|apply rD));exact HO_536001.out⟩,⟨by (with_reducible repeat (first|apply rA|apply rN|apply rD));exact HO_549001.out⟩,⟨by (with_reducible repeat (first|apply rA|apply rN|apply rD));exact HO_555001.out⟩,⟨by (with_reducible repeat (first|apply rA|apply rN|apply rD));exact HO_561001.out⟩,⟨by (with_reducible repeat (first|apply bN|apply bD|apply bA));exact BK527.out⟩,⟨by (with_reducible repeat (first|apply bN|apply bD|apply bA));exact BK535.out⟩,⟨by (with_reducible repeat (first|apply bN|apply bD|apply bA));exact BK541.out⟩,⟨by (with_reducible repeat (first|apply bN|apply bD|apply bA));exact BK542.out⟩,⟨by (with_reducible repeat (first|apply bN|apply bD|apply bA));exact BK548.out⟩,⟨by (with_reducible repeat (first|apply bN|apply bD|apply bA));exact BK554.out⟩,⟨by (with_reducible repeat (first|apply bN|apply bD|apply bA));exact BK560.out⟩,⟨by repeat (first|(with_reducible first|exact HB.out|apply lA|apply lN|apply lD|refine lS ?_ GE527.out|refine lS ?_ GE535.out|refine lS ?_ GE541.out|refine lS ?_ GE542.out|refine lS ?_ GE548.out|refine lS ?_ GE554.out|refine lS ?_ GE560.out)|exact HB.out)⟩⟩
                      ·rw [if_neg c160] at H
                       have c160b0 : decide (x20_4 < 2) = false:=decide_eq_false c160
                       clear c160
                       (first|rw [c160b0]|(simp only [i64_w,i32_w];rw [c160b0])|skip)
                       have H':=am H
                       clear H
                       go_wp2
                       go_meet
                       case rel=>exact ⟨_,(x20_4),(by first|rfl|(simp;done)|(simp [*];done)),H',⟨by have:=HJ8.out;have:=HJ49.out;have:=HJ130.out;have:=HK4.out;first|omega|exact Nat.le_refl _⟩,⟨by (with_reducible repeat (first|apply rA|apply rN|apply rD));exact HO_536001.out⟩,⟨by (with_reducible repeat (first|apply rA|apply rN|apply rD));exact HO_549001.out⟩,⟨by (with_reducible repeat (first|apply rA|apply rN|apply rD));exact HO_555001.out⟩,⟨by (with_reducible repeat (first|apply rA|apply rN|apply rD));exact HO_561001.out⟩,⟨by (with_reducible repeat (first|apply bN|apply bD|apply bA));exact BK527.out⟩,⟨by (with_reducible repeat (first|apply bN|apply bD|apply bA));exact BK535.out⟩,⟨by (with_reducible repeat (first|apply bN|apply bD|apply bA));exact BK541.out⟩,⟨by (with_reducible repeat (first|apply bN|apply bD|apply bA));exact BK542.out⟩,⟨by (with_reducible repeat (first|apply bN|apply bD|apply bA));exact BK548.out⟩,⟨by (with_reducible repeat (first|apply bN|apply bD|apply bA));exact BK554.out⟩,⟨by (with_reducible repeat (first|apply bN|apply bD|apply bA));exact BK560.out⟩,⟨by repeat (first|(with_reducible first|exact HB.out|apply lA|apply lN|apply lD|refine lS ?_ GE527.out|refine lS ?_ GE535.out|refine lS ?_ GE541.out|refine lS ?_ GE542.out|refine lS ?_ GE548.out|refine lS ?_ GE554.out|refine lS ?_ GE560.out)|exact HB.out)⟩⟩
                    case rest =>
                     as_aux_lemma =>
                      clear HC159
                      try clear c1
                      try clear c2
                      try clear p2
                      try clear c3
                      try clear c4
                      try clear c5
                      try clear c6
                      try clear p6
                      try clear c7
                      try clear c7b0
                      try clear c7b1
                      try clear c8
                      try clear c9
                      try clear c10
                      try clear c11
                      try clear c12
                      try clear c13
                      try clear c14
                      try clear c15
                      try clear c16
                      try clear c17
                      try clear c20
                      try clear c21
                      try clear c24
                      try clear c25
                      try clear c26
                      try clear c28
                      try clear c29
                      try clear c31
                      try clear c31b0
                      try clear c31b1
                      try clear c32
                      try clear c32b0
                      try clear c33
                      try clear c34
                      try clear c35
                      try clear c37
                      try clear c38
                      try clear c39
                      try clear c41
                      try clear c42
                      try clear c42b0
                      try clear c42b1
                      try clear c43
                      try clear c44
                      try clear c45
                      try clear c51
                      try clear c52
                      try clear c53
                      try clear c57
                      try clear c58
                      try clear c59
                      try clear c60
                      try clear c63
                      try clear c64
                      try clear p64
                      try clear c68
                      try clear c69
                      try clear c70
                      try clear c71
                      try clear c72
                      try clear c78
                      try clear c79
                      try clear c80
                      try clear c81
                      try clear c82
                      try clear c83
                      try clear c86
                      try clear c86b0
                      try clear c86b1
                      try clear c87
                      try clear c87b0
                      try clear c87b1
                      try clear c88
                      try clear c88b0
                      try clear c88b1
                      try clear c90
                      try clear c92
                      try clear c93
                      try clear c94
                      try clear c95
                      try clear c96
                      try clear c97
                      try clear c99
                      try clear c100
                      try clear c101
                      try clear c102
                      try clear c103
                      try clear c107
                      try clear c108
                      try clear c109
                      try clear c110
                      try clear c113
                      try clear c114
                      try clear c115
                      try clear c116
                      try clear c117
                      try clear c118
                      try clear c120
                      try clear c121
                      try clear c122
                      try clear c123
                      try clear c124
                      try clear c127
                      try clear c132
                      try clear c133
                      try clear c134
                      try clear c135
                      try clear c136
                      try clear c137
                      try clear c140
                      try clear c141
                      try clear c142
                      try clear c143
                      try clear c144
                      try clear c147
                      try clear c148
                      try clear c149
                      try clear c150
                      try clear c153
                      try clear c153b0
                      try clear c153b1
                      try clear c154
                      try clear c154b0
                      try clear c154b1
                      try clear c155
                      try clear c155b0
                      try clear c155b1
                      try clear c156
                      try clear c156b0
                      try clear c156b1
                      try clear c157
                      try clear c158
                      try clear c158b0
                      try clear c160
                      try clear c160b0
                      try clear hcz104_0
                      try clear hcz104_1
                      try clear hcz106_0
                      try clear hcz106_1
                      try clear hcz111_0
                      try clear hcz111_1
                      try clear hcz119_0
                      try clear hcz119_1
                      try clear hcz125_0
                      try clear hcz125_1
                      try clear hcz12_0
                      try clear hcz12_1
                      try clear hcz138_0
                      try clear hcz138_1
                      try clear hcz145_0
                      try clear hcz145_1
                      try clear hcz14_0
                      try clear hcz14_1
                      try clear hcz151_0
                      try clear hcz151_1
                      try clear hcz18_0
                      try clear hcz18_1
                      try clear hcz20_0
                      try clear hcz20_1
                      try clear hcz27_0
                      try clear hcz27_1
                      try clear hcz30_0
                      try clear hcz30_1
                      try clear hcz36_0
                      try clear hcz36_1
                      try clear hcz40_0
                      try clear hcz40_1
                      try clear hcz46_0
                      try clear hcz46_1
                      try clear hcz54_0
                      try clear hcz54_1
                      try clear hcz61_0
                      try clear hcz61_1
                      try clear hcz65_0
                      try clear hcz65_1
                      try clear hcz73_0
                      try clear hcz73_1
                      try clear hcz75_0
                      try clear hcz75_1
                      try clear hcz84_0
                      try clear hcz84_1
                      try clear hcz98_0
                      try clear hcz98_1
                      try clear hfz104_0
                      try clear hfz104_1
                      try clear hfz106_0
                      try clear hfz106_1
                      try clear hfz111_0
                      try clear hfz111_1
                      try clear hfz119_0
                      try clear hfz119_1
                      try clear hfz125_0
                      try clear hfz125_1
                      try clear hfz12_0
                      try clear hfz12_1
                      try clear hfz138_0
                      try clear hfz138_1
                      try clear hfz145_0
                      try clear hfz145_1
                      try clear hfz14_0
                      try clear hfz14_1
                      try clear hfz151_0
                      try clear hfz151_1
                      try clear hfz18_0
                      try clear hfz18_1
                      try clear hfz20_0
                      try clear hfz20_1
                      try clear hfz27_0
                      try clear hfz27_1
                      try clear hfz30_0
                      try clear hfz30_1
                      try clear hfz36_0
                      try clear hfz36_1
                      try clear hfz40_0
                      try clear hfz40_1
                      try clear hfz46_0
                      try clear hfz46_1
                      try clear hfz54_0
                      try clear hfz54_1
                      try clear hfz61_0
                      try clear hfz61_1
                      try clear hfz65_0
                      try clear hfz65_1
                      try clear hfz73_0
                      try clear hfz73_1
                      try clear hfz75_0
                      try clear hfz75_1
                      try clear hfz84_0
                      try clear hfz84_1
                      try clear hfz98_0
                      try clear hfz98_1
                      try clear p2
                      obtain ⟨kq,x21_158,rfl,HA,HJ158,HO_536001,HO_549001,HO_555001,HO_561001,BK527,BK535,BK541,BK542,BK548,BK554,BK560,HB⟩ := hcut
                      cases kq with
                      | zero=>exact absurd HA.out (by simp [gangsawlaw39_ProfileMirrored.j4])
                      | succ kj158 =>
                       have H:=HA.out
                       clear HA
                       simp only [gangsawlaw39_ProfileMirrored.j4] at H
                       replace H:=Option.bind_eq_some_iff.mp H
                       obtain ⟨⟨t569,t570⟩,A1610,H⟩ := H
                       replace H : ((profile_Undercut.f kj158 t543 t544 x21_158).bind fun bt571=>(if t570 = bt571.2 then (gangsawlaw39_ProfileMirrored.l0 kj158 (wrap64 (x20_4 + 1)) a0_0 l0_1 t543 t544) else (none))) = some r:=H
                       have A161:=am A1610
                       clear A1610
                       replace H:=Option.bind_eq_some_iff.mp H
                       obtain ⟨⟨t571,t572⟩,A1620,H⟩ := H
                       replace H : (if t570 = t572 then (gangsawlaw39_ProfileMirrored.l0 kj158 (wrap64 (x20_4 + 1)) a0_0 l0_1 t543 t544) else (none)) = some r:=H
                       have A162:=am A1620
                       clear A1620
                       by_cases c163 : t570 = t572
                       ·rw [if_pos c163] at H
                        have c163b0 : (t570 == t572) = true:=beq_iff_eq.mpr c163
                        have c163b1 : (t570 != t572) = false:=bne_eq_false_iff_eq.mpr c163
                        clear c163
                        have H':=am H
                        clear H
                        have hnb164:=NB527_535.out
                        have hnc164:=NB535_527.out
                        have hnb165:=NB527_541.out
                        have hnc165:=NB541_527.out
                        have hnb166:=NB527_542.out
                        have hnc166:=NB542_527.out
                        have hnb167:=NB527_548.out
                        have hnc167:=NB548_527.out
                        have hnb168:=NB527_554.out
                        have hnc168:=NB554_527.out
                        have hnb169:=NB527_560.out
                        have hnc169:=NB560_527.out
                        have hcz170_0 : wc.cell? ⟨gb527,0,none⟩ = some (.string a0_0):=(blk_cell BK527.out 0).trans rfl
                        have hcz170_1 : wc.cell? ⟨gb527,1,none⟩ = some (.slice A0_1 l0_1.length c0_1):=(blk_cell BK527.out 1).trans rfl
                        have hfz170_0:=blk_frozen BK527.out 0
                        have hfz170_1:=blk_frozen BK527.out 1
                        go_wp2_with (first|((with_reducible refine gate_callee (f:=27) rfl ?_);refine goesL_ (some 151) rfl rfl Try.func27 (by kernel_rfl) rfl #[.agg #[.string a0_0,.slice A0_1 l0_1.length c0_1],.int .i64 x20_4] rfl (by (try simp only [mT,mC,mN]);first|done|rfl|(simp only [lDr,lTk];rfl)) ?_;(with_reducible refine (profile_Undercut.calls kj158 a0_0 _ _ l0_1 x20_4 t569 t570 _ ?side1 ?side2 A161.out).mono ?_);(case side1=>repeat (first|exact (kB HR0_1.out HB.out)|(with_reducible first|apply kA|apply kN|apply kD)));(case side2=>exact HC0_1.out);rintro e w171 ⟨rfl,hb⟩;refine ⟨_,rfl, ?_⟩;have n0_:=am (Kd.R_below (by (with_reducible repeat (first|apply rA|apply rN|apply rD));exact HO_536001.out) hb);have n1_:=am (Kd.R_below (by (with_reducible repeat (first|apply rA|apply rN|apply rD));exact HO_549001.out) hb);have n2_:=am (Kd.R_below (by (with_reducible repeat (first|apply rA|apply rN|apply rD));exact HO_555001.out) hb);have n3_:=am (Kd.R_below (by (with_reducible repeat (first|apply rA|apply rN|apply rD));exact HO_561001.out) hb);have n4_:=am (blk_below (g:=gb527) (o:=.cells #[.string a0_0,.slice A0_1 l0_1.length c0_1] 25 (0,0)) (by (with_reducible repeat (first|apply bN|apply bD|apply bA));exact BK527.out) hb);have n5_:=am (blk_below (g:=gb535) (o:=.cells #[.string t530,.slice Ao19 t531.length co19] 25 (0,0)) (by (with_reducible repeat (first|apply bN|apply bD|apply bA));exact BK535.out) hb);have n6_:=am (blk_below (g:=gb541) (o:=.cells #[.int .i64 t536,.int .i64 t537] 31 (0,0)) (by (with_reducible repeat (first|apply bN|apply bD|apply bA));exact BK541.out) hb);have n7_:=am (blk_below (g:=gb542) (o:=.cells #[.int .i64 t538,.int .i64 t539] 31 (0,0)) (by (with_reducible repeat (first|apply bN|apply bD|apply bA));exact BK542.out) hb);have n8_:=am (blk_below (g:=gb548) (o:=.cells #[.string t543,.slice Ao62 t544.length co62] 25 (0,0)) (by (with_reducible repeat (first|apply bN|apply bD|apply bA));exact BK548.out) hb);have n9_:=am (blk_below (g:=gb554) (o:=.cells #[.string t549,.slice Ao74 t550.length co74] 25 (0,0)) (by (with_reducible repeat (first|apply bN|apply bD|apply bA));exact BK554.out) hb);have n10_:=am (blk_below (g:=gb560) (o:=.cells #[.string t555,.slice Ao85 t556.length co85] 25 (0,0)) (by (with_reducible repeat (first|apply bN|apply bD|apply bA));exact BK560.out) hb);have n11_:=am (below_step (by repeat (first|(with_reducible first|exact HB.out|apply lA|apply lN|apply lD|refine lS ?_ GE527.out|refine lS ?_ GE535.out|refine lS ?_ GE541.out|refine lS ?_ GE542.out|refine lS ?_ GE548.out|refine lS ?_ GE554.out|refine lS ?_ GE560.out)|exact HB.out)) hb);clear HO_536001;clear HO_549001;clear HO_555001;clear HO_561001;clear BK527;clear BK535;clear BK541;clear BK542;clear BK548;clear BK554;clear BK560;clear HB;have HO_536001:=n0_;have HO_549001:=n1_;have HO_555001:=n2_;have HO_561001:=n3_;have BK527:=n4_;have BK535:=n5_;have BK541:=n6_;have BK542:=n7_;have BK548:=n8_;have BK554:=n9_;have BK560:=n10_;have HB:=n11_;clear n0_ n1_ n2_ n3_ n4_ n5_ n6_ n7_ n8_ n9_ n10_ n11_;(try clear hb);(try clear hb2);(try clear hk);(try clear hi);have hnb172:=NB548_535.out;have hnc172:=NB535_548.out;have hnb173:=NB548_541.out;have hnc173:=NB541_548.out;have hnb174:=NB548_542.out;have hnc174:=NB542_548.out;have hnb175:=NB548_554.out;have hnc175:=NB554_548.out;have hnb176:=NB548_560.out;have hnc176:=NB560_548.out;have hcz177_0 : w171.cell? ⟨gb548,0,none⟩ = some (.string t543):=(blk_cell BK548.out 0).trans rfl;have hcz177_1 : w171.cell? ⟨gb548,1,none⟩ = some (.slice Ao62 t544.length co62):=(blk_cell BK548.out 1).trans rfl;have hfz177_0:=blk_frozen BK548.out 0;have hfz177_1:=blk_frozen BK548.out 1)|((with_reducible refine gate_callee (f:=27) rfl ?_);refine goesL_ (some 157) rfl rfl Try.func27 (by kernel_rfl) rfl #[.agg #[.string t543,.slice Ao62 t544.length co62],.int .i64 x21_158] rfl (by (try simp only [mT,mC,mN]);first|done|rfl|(simp only [lDr,lTk];rfl)) ?_;(with_reducible refine (profile_Undercut.calls kj158 t543 _ _ t544 x21_158 t571 t572 _ ?side1 ?side2 A162.out).mono ?_);(case side1=>repeat (first|exact (Kd.R_reads' HO_549001.out).2.2|(with_reducible first|apply kA|apply kN|apply kD)));(case side2=>exact (Kd.R_reads' HO_549001.out).2.1);rintro e w178 ⟨rfl,hb⟩;refine ⟨_,rfl, ?_⟩;have n0_:=am (Kd.R_below (by (with_reducible repeat (first|apply rA|apply rN|apply rD));exact HO_536001.out) hb);have n1_:=am (Kd.R_below (by (with_reducible repeat (first|apply rA|apply rN|apply rD));exact HO_549001.out) hb);have n2_:=am (Kd.R_below (by (with_reducible repeat (first|apply rA|apply rN|apply rD));exact HO_555001.out) hb);have n3_:=am (Kd.R_below (by (with_reducible repeat (first|apply rA|apply rN|apply rD));exact HO_561001.out) hb);have n4_:=am (blk_below (g:=gb527) (o:=.cells #[.string a0_0,.slice A0_1 l0_1.length c0_1] 25 (0,0)) (by (with_reducible repeat (first|apply bN|apply bD|apply bA));exact BK527.out) hb);have n5_:=am (blk_below (g:=gb535) (o:=.cells #[.string t530,.slice Ao19 t531.length co19] 25 (0,0)) (by (with_reducible repeat (first|apply bN|apply bD|apply bA));exact BK535.out) hb);have n6_:=am (blk_below (g:=gb541) (o:=.cells #[.int .i64 t536,.int .i64 t537] 31 (0,0)) (by (with_reducible repeat (first|apply bN|apply bD|apply bA));exact BK541.out) hb);have n7_:=am (blk_below (g:=gb542) (o:=.cells #[.int .i64 t538,.int .i64 t539] 31 (0,0)) (by (with_reducible repeat (first|apply bN|apply bD|apply bA));exact BK542.out) hb);have n8_:=am (blk_below (g:=gb548) (o:=.cells #[.string t543,.slice Ao62 t544.length co62] 25 (0,0)) (by (with_reducible repeat (first|apply bN|apply bD|apply bA));exact BK548.out) hb);have n9_:=am (blk_below (g:=gb554) (o:=.cells #[.string t549,.slice Ao74 t550.length co74] 25 (0,0)) (by (with_reducible repeat (first|apply bN|apply bD|apply bA));exact BK554.out) hb);have n10_:=am (blk_below (g:=gb560) (o:=.cells #[.string t555,.slice Ao85 t556.length co85] 25 (0,0)) (by (with_reducible repeat (first|apply bN|apply bD|apply bA));exact BK560.out) hb);have n11_:=am (below_step (by repeat (first|(with_reducible first|exact HB.out|apply lA|apply lN|apply lD|refine lS ?_ GE527.out|refine lS ?_ GE535.out|refine lS ?_ GE541.out|refine lS ?_ GE542.out|refine lS ?_ GE548.out|refine lS ?_ GE554.out|refine lS ?_ GE560.out)|exact HB.out)) hb);clear HO_536001;clear HO_549001;clear HO_555001;clear HO_561001;clear BK527;clear BK535;clear BK541;clear BK542;clear BK548;clear BK554;clear BK560;clear HB;have HO_536001:=n0_;have HO_549001:=n1_;have HO_555001:=n2_;have HO_561001:=n3_;have BK527:=n4_;have BK535:=n5_;have BK541:=n6_;have BK542:=n7_;have BK548:=n8_;have BK554:=n9_;have BK560:=n10_;have HB:=n11_;clear n0_ n1_ n2_ n3_ n4_ n5_ n6_ n7_ n8_ n9_ n10_ n11_;(try clear hb);(try clear hb2);(try clear hk);(try clear hi)))
                        go_roundg kj158
                        case measure=>have:=HJ8.out;have:=HJ49.out;have:=HJ130.out;have:=HK4.out;have:=HJ158.out;omega
                        case rel=>exact ⟨(wrap64 (x20_4 + 1)),(by first|rfl|(simp;done)|(simp [*];done)),H',⟨by have:=HJ8.out;have:=HJ49.out;have:=HJ130.out;have:=HK4.out;have:=HJ158.out;omega⟩,⟨by (with_reducible repeat (first|apply rA|apply rN|apply rD));exact HO_536001.out⟩,⟨by (with_reducible repeat (first|apply rA|apply rN|apply rD));exact HO_549001.out⟩,⟨by (with_reducible repeat (first|apply rA|apply rN|apply rD));exact HO_555001.out⟩,⟨by (with_reducible repeat (first|apply rA|apply rN|apply rD));exact HO_561001.out⟩,⟨by (with_reducible repeat (first|apply bN|apply bD|apply bA));exact BK527.out⟩,⟨by (with_reducible repeat (first|apply bN|apply bD|apply bA));exact BK535.out⟩,⟨by (with_reducible repeat (first|apply bN|apply bD|apply bA));exact BK541.out⟩,⟨by (with_reducible repeat (first|apply bN|apply bD|apply bA));exact BK542.out⟩,⟨by (with_reducible repeat (first|apply bN|apply bD|apply bA));exact BK548.out⟩,⟨by (with_reducible repeat (first|apply bN|apply bD|apply bA));exact BK554.out⟩,⟨by (with_reducible repeat (first|apply bN|apply bD|apply bA));exact BK560.out⟩,⟨by repeat (first|(with_reducible first|exact HB.out|apply lA|apply lN|apply lD|refine lS ?_ GE527.out|refine lS ?_ GE535.out|refine lS ?_ GE541.out|refine lS ?_ GE542.out|refine lS ?_ GE548.out|refine lS ?_ GE554.out|refine lS ?_ GE560.out)|exact HB.out)⟩⟩
                       ·rw [if_neg c163] at H
                        exact absurd H (by simp)
                   ·rw [if_neg c158] at H
                    have c158b0 : decide (x20_4 < 4) = false:=decide_eq_false c158
                    clear c158
                    obtain rfl:=Option.some.inj H
                    go_wp2
                    go_ret
                    exact ⟨by first|rfl|(simp [errW_none,errW_some] <;> rfl)|(simp [*,errW_none,errW_some] <;> rfl),by repeat (first|(with_reducible first|exact HB.out|apply lA|apply lN|apply lD|refine lS ?_ GE527.out|refine lS ?_ GE535.out|refine lS ?_ GE541.out|refine lS ?_ GE542.out|refine lS ?_ GE548.out|refine lS ?_ GE554.out|refine lS ?_ GE560.out)|exact HB.out)⟩
   ·rw [if_neg c7] at H
    have c7b0 : (t534 == 0) = false:=beq_eq_false_iff_ne.mpr c7
    have c7b1 : (t534 != 0) = true:=bne_iff_ne.mpr c7
    obtain rfl:=Option.some.inj H
    go_enter Try.func7,Try.ntmps7
    go_wp2_with (first|((with_reducible refine gate_dst (N:=1) rfl ?_);refine box_event ?hg (N:=1) ?hd (cs:=#[.string a0_0,.slice A0_1 l0_1.length c0_1]) (t:=25) ?hr ?_;(case hd=>rfl);(case hg=>rfl);(case hr=>first|(go_simp;done)|(go_simp;rfl));intro gb527 hg w179 hbox hb;have n0_:=am (below_step (by repeat (first|(with_reducible first|exact HB.out|apply lA|apply lN|apply lD)|exact HB.out)) hb);have n1_:=am (hbox);have n2_:=am ((by rw [hg];exact (below_size (by repeat (first|(with_reducible first|exact HB.out|apply lA|apply lN|apply lD)|exact HB.out))) : w.heap.size ≤ gb527));have n3_:=am ((by rw [hg];exact (below_size (by repeat (first|(with_reducible first|exact HB.out|apply lA|apply lN|apply lD)|exact HB.out))) : w.heap.size ≤ gb527));clear HB;have HB:=n0_;have BK527:=n1_;have GW527:=n2_;have GE527:=n3_;clear n0_ n1_ n2_ n3_;clear hb hbox hg)|((with_reducible refine gate_callee (f:=11) rfl ?_);refine goesL_ (some 26) rfl rfl Try.func11 (by kernel_rfl) rfl #[] rfl (by (try simp only [mT,mC,mN]);first|done|rfl|(simp only [lDr,lTk];rfl)) ?_;(with_reducible refine (gangsawlaw39_awake.calls k  true _ A2.out).mono ?_);rintro e w180 ⟨rfl,hb⟩;refine ⟨_,rfl, ?_⟩;have n0_:=am (blk_below (g:=gb527) (o:=.cells #[.string a0_0,.slice A0_1 l0_1.length c0_1] 25 (0,0)) (by (with_reducible repeat (first|apply bN|apply bD|apply bA));exact BK527.out) hb);have n1_:=am (below_step (by repeat (first|(with_reducible first|exact HB.out|apply lA|apply lN|apply lD|refine lS ?_ GE527.out)|exact HB.out)) hb);clear BK527;clear HB;have BK527:=n0_;have HB:=n1_;clear n0_ n1_;(try clear hb);(try clear hb2);(try clear hk);(try clear hi);have hcz181_0 : w180.cell? ⟨gb527,0,none⟩ = some (.string a0_0):=(blk_cell BK527.out 0).trans rfl;have hcz181_1 : w180.cell? ⟨gb527,1,none⟩ = some (.slice A0_1 l0_1.length c0_1):=(blk_cell BK527.out 1).trans rfl;have hfz181_0:=blk_frozen BK527.out 0;have hfz181_1:=blk_frozen BK527.out 1)|((with_reducible refine gate_callee (f:=12) rfl ?_);refine goesL_ (some 29) rfl rfl Try.func12 (by kernel_rfl) rfl #[.agg #[.string a0_0,.slice A0_1 l0_1.length c0_1]] rfl (by (try simp only [mT,mC,mN]);first|done|rfl|(simp only [lDr,lTk];rfl)) ?_;(with_reducible refine (gangsawref39_Short.calls a0_0 _ _ l0_1 true _ ?side1 ?side2 A4.out).mono ?_);(case side1=>repeat (first|exact (kB HR0_1.out HB.out)|(with_reducible first|apply kA|apply kN|apply kD)));(case side2=>exact HC0_1.out);rintro e w182 ⟨rfl,hb⟩;refine ⟨_,rfl, ?_⟩;have n0_:=am (blk_below (g:=gb527) (o:=.cells #[.string a0_0,.slice A0_1 l0_1.length c0_1] 25 (0,0)) (by (with_reducible repeat (first|apply bN|apply bD|apply bA));exact BK527.out) hb);have n1_:=am (below_step (by repeat (first|(with_reducible first|exact HB.out|apply lA|apply lN|apply lD|refine lS ?_ GE527.out)|exact HB.out)) hb);clear BK527;clear HB;have BK527:=n0_;have HB:=n1_;clear n0_ n1_;(try clear hb);(try clear hb2);(try clear hk);(try clear hi);have hcz183_0 : w182.cell? ⟨gb527,0,none⟩ = some (.string a0_0):=(blk_cell BK527.out 0).trans rfl;have hcz183_1 : w182.cell? ⟨gb527,1,none⟩ = some (.slice A0_1 l0_1.length c0_1):=(blk_cell BK527.out 1).trans rfl;have hfz183_0:=blk_frozen BK527.out 0;have hfz183_1:=blk_frozen BK527.out 1)|((with_reducible refine gate_callee (f:=20) rfl ?_);refine goesL_ (some 33) rfl rfl Try.func20 (by kernel_rfl) rfl #[.agg #[.string a0_0,.slice A0_1 l0_1.length c0_1]] rfl (by (try simp only [mT,mC,mN]);first|done|rfl|(simp only [lDr,lTk];rfl)) ?_;(with_reducible refine (profile_Canonical.calls k a0_0 _ _ l0_1 t530 t531 t534 _ ?side1 ?side2 A6.out).mono ?_);(case side1=>repeat (first|exact (kB HR0_1.out HB.out)|(with_reducible first|apply kA|apply kN|apply kD)));(case side2=>exact HC0_1.out);rintro e w184 ⟨v532,rfl,ho0,hb⟩;refine ⟨_,rfl, ?_⟩;have n0_:=am (Kd.R_lower ho0 (below_size (by repeat (first|(with_reducible first|exact HB.out|apply lA|apply lN|apply lD|refine lS ?_ GE527.out)|exact HB.out))));have n1_:=am (blk_below (g:=gb527) (o:=.cells #[.string a0_0,.slice A0_1 l0_1.length c0_1] 25 (0,0)) (by (with_reducible repeat (first|apply bN|apply bD|apply bA));exact BK527.out) hb);have n2_:=am (below_step (by repeat (first|(with_reducible first|exact HB.out|apply lA|apply lN|apply lD|refine lS ?_ GE527.out)|exact HB.out)) hb);clear BK527;clear HB;have HO533:=n0_;have BK527:=n1_;have HB:=n2_;clear n0_ n1_ n2_;(try clear hb);(try clear hb2);(try clear hk);(try clear hi);(try clear ho0))|((with_reducible refine gate_dst (N:=3) rfl ?_);refine box_event ?hg (N:=3) ?hd (cs:=#[.string (⟨#[]⟩ : ByteArray),.slice none 0 0]) (t:=25) ?hr ?_;(case hd=>rfl);(case hg=>rfl);(case hr=>first|(go_simp;done)|(go_simp;rfl));intro gb535 hg w185 hbox hb;have n0_:=am (Kd.R_below (by (with_reducible repeat (first|apply rA|apply rN|apply rD));exact HO533.out) hb);have n1_:=am (blk_below (g:=gb527) (o:=.cells #[.string a0_0,.slice A0_1 l0_1.length c0_1] 25 (0,0)) (by (with_reducible repeat (first|apply bN|apply bD|apply bA));exact BK527.out) hb);have n2_:=am (below_step (by repeat (first|(with_reducible first|exact HB.out|apply lA|apply lN|apply lD|refine lS ?_ GE527.out)|exact HB.out)) hb);have n3_:=am (hbox);have n4_:=am ((by rw [hg];exact (below_size (by repeat (first|(with_reducible first|exact HB.out|apply lA|apply lN|apply lD|refine lS ?_ GE527.out)|exact HB.out))) : w.heap.size ≤ gb535));have n5_:=am ((by rw [hg];exact (below_size (by repeat (first|(with_reducible first|exact HB.out|apply lA|apply lN|apply lD|refine lS ?_ GE527.out)|exact HB.out))) : w.heap.size ≤ gb535));have n6_:=am ((by rw [hg];exact Nat.ne_of_lt (blk_lt (g:=gb527) (o:=.cells #[.string a0_0,.slice A0_1 l0_1.length c0_1] 25 (0,0)) (by (with_reducible repeat (first|apply bN|apply bD|apply bA));exact BK527.out)) : gb527 ≠ gb535));have n7_:=am ((by rw [hg];exact Nat.ne_of_gt (blk_lt (g:=gb527) (o:=.cells #[.string a0_0,.slice A0_1 l0_1.length c0_1] 25 (0,0)) (by (with_reducible repeat (first|apply bN|apply bD|apply bA));exact BK527.out)) : gb535 ≠ gb527));clear HO533;clear BK527;clear HB;have HO533:=n0_;have BK527:=n1_;have HB:=n2_;have BK535:=n3_;have GW535:=n4_;have GE535:=n5_;have NB527_535:=n6_;have NB535_527:=n7_;clear n0_ n1_ n2_ n3_ n4_ n5_ n6_ n7_;clear hb hbox hg;have hnb186:=NB535_527.out;have hnc186:=NB527_535.out;have hcz187_0 : w185.cell? ⟨gb535,0,none⟩ = some (.string (⟨#[]⟩ : ByteArray)):=(blk_cell BK535.out 0).trans rfl;have hcz187_1 : w185.cell? ⟨gb535,1,none⟩ = some (.slice none 0 0):=(blk_cell BK535.out 1).trans rfl;have hfz187_0:=blk_frozen BK535.out 0;have hfz187_1:=blk_frozen BK535.out 1;obtain ⟨Ao188,co188,eo188⟩ := Kd.R_slice HO533.out;subst eo188))
    go_ret
    exact ⟨by first|rfl|(simp [errW_none,errW_some] <;> rfl)|(simp [*,errW_none,errW_some] <;> rfl),by repeat (first|(with_reducible first|exact HB.out|apply lA|apply lN|apply lD|refine lS ?_ GE527.out|refine lS ?_ GE535.out)|exact HB.out)⟩
  ·replace c5:=Bool.eq_false_iff.mpr c5
   subst c5
   have H1 : (some true) = some r:=by rw [if_neg (show ¬ (false = true) by decide)] at H;exact H
   clear H
   have H:=H1
   clear H1
   obtain rfl:=Option.some.inj H
   go_enter Try.func7,Try.ntmps7
   go_wp2_with (first|((with_reducible refine gate_dst (N:=1) rfl ?_);refine box_event ?hg (N:=1) ?hd (cs:=#[.string a0_0,.slice A0_1 l0_1.length c0_1]) (t:=25) ?hr ?_;(case hd=>rfl);(case hg=>rfl);(case hr=>first|(go_simp;done)|(go_simp;rfl));intro gb527 hg w189 hbox hb;have n0_:=am (below_step (by repeat (first|(with_reducible first|exact HB.out|apply lA|apply lN|apply lD)|exact HB.out)) hb);have n1_:=am (hbox);have n2_:=am ((by rw [hg];exact (below_size (by repeat (first|(with_reducible first|exact HB.out|apply lA|apply lN|apply lD)|exact HB.out))) : w.heap.size ≤ gb527));have n3_:=am ((by rw [hg];exact (below_size (by repeat (first|(with_reducible first|exact HB.out|apply lA|apply lN|apply lD)|exact HB.out))) : w.heap.size ≤ gb527));clear HB;have HB:=n0_;have BK527:=n1_;have GW527:=n2_;have GE527:=n3_;clear n0_ n1_ n2_ n3_;clear hb hbox hg)|((with_reducible refine gate_callee (f:=11) rfl ?_);refine goesL_ (some 26) rfl rfl Try.func11 (by kernel_rfl) rfl #[] rfl (by (try simp only [mT,mC,mN]);first|done|rfl|(simp only [lDr,lTk];rfl)) ?_;(with_reducible refine (gangsawlaw39_awake.calls k  true _ A2.out).mono ?_);rintro e w190 ⟨rfl,hb⟩;refine ⟨_,rfl, ?_⟩;have n0_:=am (blk_below (g:=gb527) (o:=.cells #[.string a0_0,.slice A0_1 l0_1.length c0_1] 25 (0,0)) (by (with_reducible repeat (first|apply bN|apply bD|apply bA));exact BK527.out) hb);have n1_:=am (below_step (by repeat (first|(with_reducible first|exact HB.out|apply lA|apply lN|apply lD|refine lS ?_ GE527.out)|exact HB.out)) hb);clear BK527;clear HB;have BK527:=n0_;have HB:=n1_;clear n0_ n1_;(try clear hb);(try clear hb2);(try clear hk);(try clear hi);have hcz191_0 : w190.cell? ⟨gb527,0,none⟩ = some (.string a0_0):=(blk_cell BK527.out 0).trans rfl;have hcz191_1 : w190.cell? ⟨gb527,1,none⟩ = some (.slice A0_1 l0_1.length c0_1):=(blk_cell BK527.out 1).trans rfl;have hfz191_0:=blk_frozen BK527.out 0;have hfz191_1:=blk_frozen BK527.out 1)|((with_reducible refine gate_callee (f:=12) rfl ?_);refine goesL_ (some 29) rfl rfl Try.func12 (by kernel_rfl) rfl #[.agg #[.string a0_0,.slice A0_1 l0_1.length c0_1]] rfl (by (try simp only [mT,mC,mN]);first|done|rfl|(simp only [lDr,lTk];rfl)) ?_;(with_reducible refine (gangsawref39_Short.calls a0_0 _ _ l0_1 false _ ?side1 ?side2 A4.out).mono ?_);(case side1=>repeat (first|exact (kB HR0_1.out HB.out)|(with_reducible first|apply kA|apply kN|apply kD)));(case side2=>exact HC0_1.out);rintro e w192 ⟨rfl,hb⟩;refine ⟨_,rfl, ?_⟩;have n0_:=am (blk_below (g:=gb527) (o:=.cells #[.string a0_0,.slice A0_1 l0_1.length c0_1] 25 (0,0)) (by (with_reducible repeat (first|apply bN|apply bD|apply bA));exact BK527.out) hb);have n1_:=am (below_step (by repeat (first|(with_reducible first|exact HB.out|apply lA|apply lN|apply lD|refine lS ?_ GE527.out)|exact HB.out)) hb);clear BK527;clear HB;have BK527:=n0_;have HB:=n1_;clear n0_ n1_;(try clear hb);(try clear hb2);(try clear hk);(try clear hi)))
   go_ret
   exact ⟨by first|rfl|(simp [errW_none,errW_some] <;> rfl)|(simp [*,errW_none,errW_some] <;> rfl),by repeat (first|(with_reducible first|exact HB.out|apply lA|apply lN|apply lD|refine lS ?_ GE527.out)|exact HB.out)⟩
 ·replace c3:=Bool.eq_false_iff.mpr c3
  subst c3
  have H1 : (none) = some r:=by rw [if_neg (show ¬ (false = true) by decide)] at H;exact H
  clear H
  have H:=H1
  clear H1
  exact absurd H (by simp)

end
end Go.Proofs.Ytnjikioimompnaa.PA
