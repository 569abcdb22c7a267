-- Written by a program of this session out of the translation,over functions proved by hand.
import Derived.Test.YtnjikioimompnaaPAx0
import Derived.Test.YtnjikioimompnaaPAx7
import Derived.Test.YtnjikioimompnaaGiven
import Derived.Test.YtnjikioimompnaaGg
namespace Go.Proofs.Ytnjikioimompnaa.PA
open Go.RowKit Go.Proofs.YtnjikioimompnaaW.PrintWords Go.Proofs.YtnjikioimompnaaW.PrintLast Go.Proofs.YtnjikioimompnaaW.PrintMore
attribute [local go_sem] max2_int min2_int max_two min_two max_three min_three max_four min_four   -- for this text's walks alone
set_option linter.unusedVariables false
set_option linter.unusedSimpArgs false
noncomputable section

def gangsawlaw39_same.f (k : Nat) (a0_0 : ByteArray) (l0_1 : List (S31)) (a1_0 : ByteArray) (l1_1 : List (S31)) : Option (Bool):=if a0_0.toList = a1_0.toList then ((gangsawref39_Same.f k l0_1 l1_1).bind fun t402=>(some t402)) else (some false)
set_option maxHeartbeats 8000000 in
set_option maxRecDepth 100000 in
theorem gangsawlaw39_same.calls (k : Nat) (a0_0 : ByteArray) (A0_1 : Option Addr) (c0_1 : Nat) (l0_1 : List (S31)) (a1_0 : ByteArray) (A1_1 : Option Addr) (c1_1 : Nat) (l1_1 : List (S31)) (r : Bool) (w : World) (hr0_1 : Kd.C k31 w A0_1 l0_1.length l0_1) (hc0_1 : l0_1.length ≤ c0_1) (hr1_1 : Kd.C k31 w A1_1 l1_1.length l1_1) (hc1_1 : l1_1.length ≤ c1_1) (h : gangsawlaw39_same.f k a0_0 l0_1 a1_0 l1_1 = some r) :
  Calls Try.prog 23 #[.agg #[.string a0_0,.slice A0_1 l0_1.length c0_1],.agg #[.string a1_0,.slice A1_1 l1_1.length c1_1]] w fun e w'=>e = .returned (.bool r) ∧ Below w.heap.size w w':=by
 have hu25:=Try.underlying25
 have HR0_1:=am hr0_1
 have HC0_1:=am hc0_1
 clear hr0_1 hc0_1
 have HR1_1:=am hr1_1
 have HC1_1:=am hc1_1
 clear hr1_1 hc1_1
 have HB:=am (Below.refl w.heap.size w)
 have H : (if a0_0.toList = a1_0.toList then ((gangsawref39_Same.f k l0_1 l1_1).bind fun t402=>(some t402)) else (some false)) = some r:=h
 clear h
 by_cases c3 : a0_0.toList = a1_0.toList
 ·rw [if_pos c3] at H
  have c3b0 : (a0_0.toList == a1_0.toList) = true:=beq_iff_eq.mpr c3
  have c3b1 : (a0_0.toList != a1_0.toList) = false:=bne_eq_false_iff_eq.mpr c3
  clear c3
  replace H:=Option.bind_eq_some_iff.mp H
  obtain ⟨t402,A40,H⟩ := H
  replace H : (some t402) = some r:=H
  have A4:=am A40
  clear A40
  obtain rfl:=Option.some.inj H
  go_enter Try.func23,Try.ntmps23
  go_wp2_with (first|((with_reducible refine gate_dst (N:=2) rfl ?_);refine box_event ?hg (N:=2) ?hd (cs:=#[.string a0_0,.slice A0_1 l0_1.length c0_1]) (t:=25) ?hr ?_;(case hd=>rfl);(case hg=>rfl);(case hr=>first|(go_simp;done)|(go_simp;rfl));intro gb400 hg w5 hbox hb;have n0_:=am (below_step (by repeat (first|(with_reducible first|exact HB.out|apply lA|apply lN|apply lD)|exact HB.out)) hb);have n1_:=am (hbox);have n2_:=am ((by rw [hg];exact (below_size (by repeat (first|(with_reducible first|exact HB.out|apply lA|apply lN|apply lD)|exact HB.out))) : w.heap.size ≤ gb400));have n3_:=am ((by rw [hg];exact (below_size (by repeat (first|(with_reducible first|exact HB.out|apply lA|apply lN|apply lD)|exact HB.out))) : w.heap.size ≤ gb400));clear HB;have HB:=n0_;have BK400:=n1_;have GW400:=n2_;have GE400:=n3_;clear n0_ n1_ n2_ n3_;clear hb hbox hg)|((with_reducible refine gate_dst (N:=3) rfl ?_);refine box_event ?hg (N:=3) ?hd (cs:=#[.string a1_0,.slice A1_1 l1_1.length c1_1]) (t:=25) ?hr ?_;(case hd=>rfl);(case hg=>rfl);(case hr=>first|(go_simp;done)|(go_simp;rfl));intro gb401 hg w6 hbox hb;have n0_:=am (blk_below (g:=gb400) (o:=.cells #[.string a0_0,.slice A0_1 l0_1.length c0_1] 25 (0,0)) (by (with_reducible repeat (first|apply bN|apply bD|apply bA));exact BK400.out) hb);have n1_:=am (below_step (by repeat (first|(with_reducible first|exact HB.out|apply lA|apply lN|apply lD|refine lS ?_ GE400.out)|exact HB.out)) hb);have n2_:=am (hbox);have n3_:=am ((by rw [hg];exact (below_size (by repeat (first|(with_reducible first|exact HB.out|apply lA|apply lN|apply lD|refine lS ?_ GE400.out)|exact HB.out))) : w.heap.size ≤ gb401));have n4_:=am ((by rw [hg];exact (below_size (by repeat (first|(with_reducible first|exact HB.out|apply lA|apply lN|apply lD|refine lS ?_ GE400.out)|exact HB.out))) : w.heap.size ≤ gb401));have n5_:=am ((by rw [hg];exact Nat.ne_of_lt (blk_lt (g:=gb400) (o:=.cells #[.string a0_0,.slice A0_1 l0_1.length c0_1] 25 (0,0)) (by (with_reducible repeat (first|apply bN|apply bD|apply bA));exact BK400.out)) : gb400 ≠ gb401));have n6_:=am ((by rw [hg];exact Nat.ne_of_gt (blk_lt (g:=gb400) (o:=.cells #[.string a0_0,.slice A0_1 l0_1.length c0_1] 25 (0,0)) (by (with_reducible repeat (first|apply bN|apply bD|apply bA));exact BK400.out)) : gb401 ≠ gb400));clear BK400;clear HB;have BK400:=n0_;have HB:=n1_;have BK401:=n2_;have GW401:=n3_;have GE401:=n4_;have NB400_401:=n5_;have NB401_400:=n6_;clear n0_ n1_ n2_ n3_ n4_ n5_ n6_;clear hb hbox hg;have hnb7:=NB400_401.out;have hnc7:=NB401_400.out;have hcz8_0 : w6.cell? ⟨gb400,0,none⟩ = some (.string a0_0):=(blk_cell BK400.out 0).trans rfl;have hcz8_1 : w6.cell? ⟨gb400,1,none⟩ = some (.slice A0_1 l0_1.length c0_1):=(blk_cell BK400.out 1).trans rfl;have hfz8_0:=blk_frozen BK400.out 0;have hfz8_1:=blk_frozen BK400.out 1;have hcz9_0 : w6.cell? ⟨gb401,0,none⟩ = some (.string a1_0):=(blk_cell BK401.out 0).trans rfl;have hcz9_1 : w6.cell? ⟨gb401,1,none⟩ = some (.slice A1_1 l1_1.length c1_1):=(blk_cell BK401.out 1).trans rfl;have hfz9_0:=blk_frozen BK401.out 0;have hfz9_1:=blk_frozen BK401.out 1)|(go_at_call 26;(with_reducible refine (gangsawref39_Same.calls k _ _ l0_1 _ _ l1_1 t402 _ ?side1 ?side2 ?side3 ?side4 A4.out).mono ?_);(case side1=>repeat (first|exact (kB HR0_1.out HB.out)|(with_reducible first|apply kA|apply kN|apply kD)));(case side2=>exact HC0_1.out);(case side3=>repeat (first|exact (kB HR1_1.out HB.out)|(with_reducible first|apply kA|apply kN|apply kD)));(case side4=>exact HC1_1.out);rintro e w' ⟨rfl,⟨nd,rfl⟩⟩))
  go_ret
  exact ⟨by first|rfl|(simp [errW_none,errW_some] <;> rfl)|(simp [*,errW_none,errW_some] <;> rfl),by repeat (first|(with_reducible first|exact HB.out|apply lA|apply lN|apply lD|refine lS ?_ GE400.out|refine lS ?_ GE401.out)|exact HB.out)⟩
 ·rw [if_neg c3] at H
  have c3b0 : (a0_0.toList == a1_0.toList) = false:=beq_eq_false_iff_ne.mpr c3
  have c3b1 : (a0_0.toList != a1_0.toList) = true:=bne_iff_ne.mpr c3
  obtain rfl:=Option.some.inj H
  go_enter Try.func23,Try.ntmps23
  go_wp2_with (first|((with_reducible refine gate_dst (N:=2) rfl ?_);refine box_event ?hg (N:=2) ?hd (cs:=#[.string a0_0,.slice A0_1 l0_1.length c0_1]) (t:=25) ?hr ?_;(case hd=>rfl);(case hg=>rfl);(case hr=>first|(go_simp;done)|(go_simp;rfl));intro gb400 hg w10 hbox hb;have n0_:=am (below_step (by repeat (first|(with_reducible first|exact HB.out|apply lA|apply lN|apply lD)|exact HB.out)) hb);have n1_:=am (hbox);have n2_:=am ((by rw [hg];exact (below_size (by repeat (first|(with_reducible first|exact HB.out|apply lA|apply lN|apply lD)|exact HB.out))) : w.heap.size ≤ gb400));have n3_:=am ((by rw [hg];exact (below_size (by repeat (first|(with_reducible first|exact HB.out|apply lA|apply lN|apply lD)|exact HB.out))) : w.heap.size ≤ gb400));clear HB;have HB:=n0_;have BK400:=n1_;have GW400:=n2_;have GE400:=n3_;clear n0_ n1_ n2_ n3_;clear hb hbox hg)|((with_reducible refine gate_dst (N:=3) rfl ?_);refine box_event ?hg (N:=3) ?hd (cs:=#[.string a1_0,.slice A1_1 l1_1.length c1_1]) (t:=25) ?hr ?_;(case hd=>rfl);(case hg=>rfl);(case hr=>first|(go_simp;done)|(go_simp;rfl));intro gb401 hg w11 hbox hb;have n0_:=am (blk_below (g:=gb400) (o:=.cells #[.string a0_0,.slice A0_1 l0_1.length c0_1] 25 (0,0)) (by (with_reducible repeat (first|apply bN|apply bD|apply bA));exact BK400.out) hb);have n1_:=am (below_step (by repeat (first|(with_reducible first|exact HB.out|apply lA|apply lN|apply lD|refine lS ?_ GE400.out)|exact HB.out)) hb);have n2_:=am (hbox);have n3_:=am ((by rw [hg];exact (below_size (by repeat (first|(with_reducible first|exact HB.out|apply lA|apply lN|apply lD|refine lS ?_ GE400.out)|exact HB.out))) : w.heap.size ≤ gb401));have n4_:=am ((by rw [hg];exact (below_size (by repeat (first|(with_reducible first|exact HB.out|apply lA|apply lN|apply lD|refine lS ?_ GE400.out)|exact HB.out))) : w.heap.size ≤ gb401));have n5_:=am ((by rw [hg];exact Nat.ne_of_lt (blk_lt (g:=gb400) (o:=.cells #[.string a0_0,.slice A0_1 l0_1.length c0_1] 25 (0,0)) (by (with_reducible repeat (first|apply bN|apply bD|apply bA));exact BK400.out)) : gb400 ≠ gb401));have n6_:=am ((by rw [hg];exact Nat.ne_of_gt (blk_lt (g:=gb400) (o:=.cells #[.string a0_0,.slice A0_1 l0_1.length c0_1] 25 (0,0)) (by (with_reducible repeat (first|apply bN|apply bD|apply bA));exact BK400.out)) : gb401 ≠ gb400));clear BK400;clear HB;have BK400:=n0_;have HB:=n1_;have BK401:=n2_;have GW401:=n3_;have GE401:=n4_;have NB400_401:=n5_;have NB401_400:=n6_;clear n0_ n1_ n2_ n3_ n4_ n5_ n6_;clear hb hbox hg;have hnb12:=NB400_401.out;have hnc12:=NB401_400.out;have hcz13_0 : w11.cell? ⟨gb400,0,none⟩ = some (.string a0_0):=(blk_cell BK400.out 0).trans rfl;have hcz13_1 : w11.cell? ⟨gb400,1,none⟩ = some (.slice A0_1 l0_1.length c0_1):=(blk_cell BK400.out 1).trans rfl;have hfz13_0:=blk_frozen BK400.out 0;have hfz13_1:=blk_frozen BK400.out 1;have hcz14_0 : w11.cell? ⟨gb401,0,none⟩ = some (.string a1_0):=(blk_cell BK401.out 0).trans rfl;have hcz14_1 : w11.cell? ⟨gb401,1,none⟩ = some (.slice A1_1 l1_1.length c1_1):=(blk_cell BK401.out 1).trans rfl;have hfz14_0:=blk_frozen BK401.out 0;have hfz14_1:=blk_frozen BK401.out 1))
  go_ret
  exact ⟨by first|rfl|(simp [errW_none,errW_some] <;> rfl)|(simp [*,errW_none,errW_some] <;> rfl),by repeat (first|(with_reducible first|exact HB.out|apply lA|apply lN|apply lD|refine lS ?_ GE400.out|refine lS ?_ GE401.out)|exact HB.out)⟩

end
end Go.Proofs.Ytnjikioimompnaa.PA
