import Derived.Test.YtohcgenhhgipcaaGiven
import Derived.Test.YtohcgenhhgipcaaPAx10
namespace Go.Proofs.Ytohcgenhhgipcaa.PA
open Go.RowKit Go.Proofs.YtohcgenhhgipcaaW.PrintWords Go.Proofs.YtohcgenhhgipcaaW.PrintLast Go.Proofs.YtohcgenhhgipcaaW.PrintMore
attribute [local go_sem] max2_int min2_int max_two min_two max_three min_three max_four min_four   -- for this text's walks alone
set_option linter.unusedVariables false
set_option linter.unusedSimpArgs false

mutual
def gangsawref54_Check.l0 : Nat → List (S65) → Bool → Int → ByteArray → Int → Int → Int → Int → Int → Int → Int → Option (Int)
 | 0,_,_,_,_,_,_,_,_,_,_,_=>none
 | k + 1,x1,x5,x6,x241000,x241001,x241002,x241003,x241004,x241005,x241006,x241007=>if x6 < (x1.length : Int) then (if x5 = true then (if 0 ≤ x6 then ((gangsawref09_Name.f k ((rd_T65 x1 x6).f0)).bind fun t243=>(gangsawref54_Check.l0 k x1 t243 (wrap64 (x6 + 1)) x241000 x241001 x241002 x241003 x241004 x241005 x241006 x241007)) else (none)) else (gangsawref54_Check.l0 k x1 false (wrap64 (x6 + 1)) x241000 x241001 x241002 x241003 x241004 x241005 x241006 x241007)) else (if x5 = true then ((gangsawref54_truck.f x241000 x241001 x241002 x241003 x241004 x241005 x241006 x241007).bind fun t244=>(gangsawref54_Check.l1 k x1 t244 0)) else (some 4))
def gangsawref54_Check.l1 : Nat → List (S65) → Bool → Int → Option (Int)
 | 0,_,_,_=>none
 | k + 1,x1,x5,x7=>if x7 < (x1.length : Int) then (if x5 = true then (if 0 ≤ x7 then ((gangsawref54_in.f ((rd_T65 x1 x7).f1) 1 30000).bind fun t246=>(if t246 = true then ((gangsawref54_in.f ((rd_T65 x1 x7).f2) 1 1000000000).bind fun t248=>(gangsawref54_Check.l1 k x1 t248 (wrap64 (x7 + 1)))) else (gangsawref54_Check.l1 k x1 false (wrap64 (x7 + 1))))) else (none)) else (gangsawref54_Check.l1 k x1 false (wrap64 (x7 + 1)))) else (if x5 = true then (gangsawref54_Check.l2 k x1 0) else (some 6))
def gangsawref54_Check.l2 : Nat → List (S65) → Int → Option (Int)
 | 0,_,_=>none
 | k + 1,x1,x8=>if x8 < (x1.length : Int) then (gangsawref54_Check.l3 k x1 x8 0) else (some 0)
def gangsawref54_Check.l3 : Nat → List (S65) → Int → Int → Option (Int)
 | 0,_,_,_=>none
 | k + 1,x1,x8,x9=>if x9 < x8 then (if 0 ≤ x8 then (if x8 < (x1.length : Int) then (if 0 ≤ x9 then (if x9 < (x1.length : Int) then (if ((rd_T65 x1 x8).f0).toList = ((rd_T65 x1 x9).f0).toList then (some 5) else (gangsawref54_Check.l3 k x1 x8 (wrap64 (x9 + 1)))) else (none)) else (none)) else (none)) else (none)) else (gangsawref54_Check.l2 k x1 (wrap64 (x8 + 1)))
end
def gangsawref54_Check.f (k : Nat) (a0_0 : ByteArray) (a0_1 : Int) (a0_2 : Int) (a0_3 : Int) (a0_4 : Int) (a0_5 : Int) (a0_6 : Int) (a0_7 : Int) (l1 : List (S65)) : Option (Int):=if (l1.length : Int) > 64 then (some 7) else ((gangsawref09_Name.f k a0_0).bind fun t241=>(gangsawref54_Check.l0 k l1 t241 0 a0_0 a0_1 a0_2 a0_3 a0_4 a0_5 a0_6 a0_7))
set_option maxHeartbeats 8000000 in
set_option maxRecDepth 100000 in
theorem gangsawref54_Check.calls (k : Nat) (a0_0 : ByteArray) (a0_1 : Int) (a0_2 : Int) (a0_3 : Int) (a0_4 : Int) (a0_5 : Int) (a0_6 : Int) (a0_7 : Int) (A1 : Option Addr) (c1 : Nat) (l1 : List (S65)) (r : Int) (w : World) (hr1 : Kd.C k65 w A1 l1.length l1) (hc1 : l1.length ≤ c1) (h : gangsawref54_Check.f k a0_0 a0_1 a0_2 a0_3 a0_4 a0_5 a0_6 a0_7 l1 = some r) :
  Calls Try.prog 16 #[.agg #[.string a0_0,.int .i64 a0_1,.int .i64 a0_2,.int .i64 a0_3,.int .i64 a0_4,.int .i64 a0_5,.int .i64 a0_6,.int .i64 a0_7],.slice A1 l1.length c1] w fun e w'=>e = .returned (.int .i64 r) ∧ Below w.heap.size w w':=by
 have hu24:=Try.underlying24;have HR1:=am hr1;have HC1:=am hc1;clear hr1 hc1;have HB:=am (Below.refl w.heap.size w);have H : (if (l1.length : Int) > 64 then (some 7) else ((gangsawref09_Name.f k a0_0).bind fun t241=>(gangsawref54_Check.l0 k l1 t241 0 a0_0 a0_1 a0_2 a0_3 a0_4 a0_5 a0_6 a0_7))) = some r:=h;clear h;by_cases c3 : (l1.length : Int) > 64
 ·rw [if_pos c3] at H;have c3b0 : decide (64 < (l1.length : Int)) = true:=decide_eq_true c3;have c3b1 : decide (64 < l1.length) = true:=decide_eq_true (by omega);clear c3;obtain rfl:=Option.some.inj H
  go_enter Try.func16,Try.ntmps16
  go_wp2_with (first|((with_reducible refine gate_dst (N:=2) rfl ?_);refine box_event ?hg (N:=2) ?hd (cs:=#[.string a0_0,.int .i64 a0_1,.int .i64 a0_2,.int .i64 a0_3,.int .i64 a0_4,.int .i64 a0_5,.int .i64 a0_6,.int .i64 a0_7]) (t:=24) ?hr ?_;(case hd=>rfl);(case hg=>rfl);(case hr=>first|(go_simp;done)|(go_simp;rfl));intro gb240 hg w4 hbox hb;have n0_:=am (below_step (by repeat (first|(with_reducible first|exact HB.out|apply lA|apply lN|apply lD)|exact HB.out)) hb);have n1_:=am (hbox);have n2_:=am ((by rw [hg];exact (below_size (by repeat (first|(with_reducible first|exact HB.out|apply lA|apply lN|apply lD)|exact HB.out))) : w.heap.size ≤ gb240));have n3_:=am ((by rw [hg];exact (below_size (by repeat (first|(with_reducible first|exact HB.out|apply lA|apply lN|apply lD)|exact HB.out))) : w.heap.size ≤ gb240));clear HB;have HB:=n0_;have BK240:=n1_;have GW240:=n2_;have GE240:=n3_;clear n0_ n1_ n2_ n3_;clear hb hbox hg))
  repeat (go_quiet (first|((with_reducible refine gate_dst (N:=2) rfl ?_);refine box_event ?hg (N:=2) ?hd (cs:=#[.string a0_0,.int .i64 a0_1,.int .i64 a0_2,.int .i64 a0_3,.int .i64 a0_4,.int .i64 a0_5,.int .i64 a0_6,.int .i64 a0_7]) (t:=24) ?hr ?_;(case hd=>rfl);(case hg=>rfl);(case hr=>first|(go_simp;done)|(go_simp;rfl));intro gb240 hg w4 hbox hb;have n0_:=am (below_step (by repeat (first|(with_reducible first|exact HB.out|apply lA|apply lN|apply lD)|exact HB.out)) hb);have n1_:=am (hbox);have n2_:=am ((by rw [hg];exact (below_size (by repeat (first|(with_reducible first|exact HB.out|apply lA|apply lN|apply lD)|exact HB.out))) : w.heap.size ≤ gb240));have n3_:=am ((by rw [hg];exact (below_size (by repeat (first|(with_reducible first|exact HB.out|apply lA|apply lN|apply lD)|exact HB.out))) : w.heap.size ≤ gb240));clear HB;have HB:=n0_;have BK240:=n1_;have GW240:=n2_;have GE240:=n3_;clear n0_ n1_ n2_ n3_;clear hb hbox hg));try go_wp2_with (first|((with_reducible refine gate_dst (N:=2) rfl ?_);refine box_event ?hg (N:=2) ?hd (cs:=#[.string a0_0,.int .i64 a0_1,.int .i64 a0_2,.int .i64 a0_3,.int .i64 a0_4,.int .i64 a0_5,.int .i64 a0_6,.int .i64 a0_7]) (t:=24) ?hr ?_;(case hd=>rfl);(case hg=>rfl);(case hr=>first|(go_simp;done)|(go_simp;rfl));intro gb240 hg w4 hbox hb;have n0_:=am (below_step (by repeat (first|(with_reducible first|exact HB.out|apply lA|apply lN|apply lD)|exact HB.out)) hb);have n1_:=am (hbox);have n2_:=am ((by rw [hg];exact (below_size (by repeat (first|(with_reducible first|exact HB.out|apply lA|apply lN|apply lD)|exact HB.out))) : w.heap.size ≤ gb240));have n3_:=am ((by rw [hg];exact (below_size (by repeat (first|(with_reducible first|exact HB.out|apply lA|apply lN|apply lD)|exact HB.out))) : w.heap.size ≤ gb240));clear HB;have HB:=n0_;have BK240:=n1_;have GW240:=n2_;have GE240:=n3_;clear n0_ n1_ n2_ n3_;clear hb hbox hg)))
  go_ret
  exact ⟨by first|rfl|(simp [errW_none,errW_some] <;> rfl)|(simp [*,errW_none,errW_some] <;> rfl),by repeat (first|(with_reducible first|exact HB.out|apply lA|apply lN|apply lD|refine lS ?_ GE240.out)|exact HB.out)⟩
 ·rw [if_neg c3] at H;have c3b0 : decide (64 < (l1.length : Int)) = false:=decide_eq_false c3;have c3b1 : decide (64 < l1.length) = false:=decide_eq_false (by omega);clear c3;replace H:=Option.bind_eq_some_iff.mp H;obtain ⟨t241,A50,H⟩ := H;replace H : (gangsawref54_Check.l0 k l1 t241 0 a0_0 a0_1 a0_2 a0_3 a0_4 a0_5 a0_6 a0_7) = some r:=H;have A5:=am A50;clear A50;have H':=am H;clear H
  go_enter Try.func16,Try.ntmps16
  go_wp2_with (first|((with_reducible refine gate_dst (N:=2) rfl ?_);refine box_event ?hg (N:=2) ?hd (cs:=#[.string a0_0,.int .i64 a0_1,.int .i64 a0_2,.int .i64 a0_3,.int .i64 a0_4,.int .i64 a0_5,.int .i64 a0_6,.int .i64 a0_7]) (t:=24) ?hr ?_;(case hd=>rfl);(case hg=>rfl);(case hr=>first|(go_simp;done)|(go_simp;rfl));intro gb240 hg w6 hbox hb;have n0_:=am (below_step (by repeat (first|(with_reducible first|exact HB.out|apply lA|apply lN|apply lD)|exact HB.out)) hb);have n1_:=am (hbox);have n2_:=am ((by rw [hg];exact (below_size (by repeat (first|(with_reducible first|exact HB.out|apply lA|apply lN|apply lD)|exact HB.out))) : w.heap.size ≤ gb240));have n3_:=am ((by rw [hg];exact (below_size (by repeat (first|(with_reducible first|exact HB.out|apply lA|apply lN|apply lD)|exact HB.out))) : w.heap.size ≤ gb240));clear HB;have HB:=n0_;have BK240:=n1_;have GW240:=n2_;have GE240:=n3_;clear n0_ n1_ n2_ n3_;clear hb hbox hg;have hcz7_0 : w6.cell? ⟨gb240,0,none⟩ = some (.string a0_0):=(blk_cell BK240.out 0).trans rfl;have hcz7_1 : w6.cell? ⟨gb240,1,none⟩ = some (.int .i64 a0_1):=(blk_cell BK240.out 1).trans rfl;have hcz7_2 : w6.cell? ⟨gb240,2,none⟩ = some (.int .i64 a0_2):=(blk_cell BK240.out 2).trans rfl;have hcz7_3 : w6.cell? ⟨gb240,3,none⟩ = some (.int .i64 a0_3):=(blk_cell BK240.out 3).trans rfl;have hcz7_4 : w6.cell? ⟨gb240,4,none⟩ = some (.int .i64 a0_4):=(blk_cell BK240.out 4).trans rfl;have hcz7_5 : w6.cell? ⟨gb240,5,none⟩ = some (.int .i64 a0_5):=(blk_cell BK240.out 5).trans rfl;have hcz7_6 : w6.cell? ⟨gb240,6,none⟩ = some (.int .i64 a0_6):=(blk_cell BK240.out 6).trans rfl;have hcz7_7 : w6.cell? ⟨gb240,7,none⟩ = some (.int .i64 a0_7):=(blk_cell BK240.out 7).trans rfl;have hfz7_0:=blk_frozen BK240.out 0;have hfz7_1:=blk_frozen BK240.out 1;have hfz7_2:=blk_frozen BK240.out 2;have hfz7_3:=blk_frozen BK240.out 3;have hfz7_4:=blk_frozen BK240.out 4;have hfz7_5:=blk_frozen BK240.out 5;have hfz7_6:=blk_frozen BK240.out 6;have hfz7_7:=blk_frozen BK240.out 7)|(go_at_call 34;(with_reducible refine (gangsawref09_Name.calls k a0_0 t241 _ A5.out).mono ?_);rintro e w' ⟨rfl,⟨nd,rfl⟩⟩;(try first|exact ⟨rfl,_,World.drewN_drewN _ _ _⟩|exact ⟨rfl,_,Eq.trans (World.drewN_drewN _ _ _) (congrArg (World.drewN _) (Nat.add_assoc _ _ _))⟩)))
  repeat (go_quiet (first|((with_reducible refine gate_dst (N:=2) rfl ?_);refine box_event ?hg (N:=2) ?hd (cs:=#[.string a0_0,.int .i64 a0_1,.int .i64 a0_2,.int .i64 a0_3,.int .i64 a0_4,.int .i64 a0_5,.int .i64 a0_6,.int .i64 a0_7]) (t:=24) ?hr ?_;(case hd=>rfl);(case hg=>rfl);(case hr=>first|(go_simp;done)|(go_simp;rfl));intro gb240 hg w6 hbox hb;have n0_:=am (below_step (by repeat (first|(with_reducible first|exact HB.out|apply lA|apply lN|apply lD)|exact HB.out)) hb);have n1_:=am (hbox);have n2_:=am ((by rw [hg];exact (below_size (by repeat (first|(with_reducible first|exact HB.out|apply lA|apply lN|apply lD)|exact HB.out))) : w.heap.size ≤ gb240));have n3_:=am ((by rw [hg];exact (below_size (by repeat (first|(with_reducible first|exact HB.out|apply lA|apply lN|apply lD)|exact HB.out))) : w.heap.size ≤ gb240));clear HB;have HB:=n0_;have BK240:=n1_;have GW240:=n2_;have GE240:=n3_;clear n0_ n1_ n2_ n3_;clear hb hbox hg;have hcz7_0 : w6.cell? ⟨gb240,0,none⟩ = some (.string a0_0):=(blk_cell BK240.out 0).trans rfl;have hcz7_1 : w6.cell? ⟨gb240,1,none⟩ = some (.int .i64 a0_1):=(blk_cell BK240.out 1).trans rfl;have hcz7_2 : w6.cell? ⟨gb240,2,none⟩ = some (.int .i64 a0_2):=(blk_cell BK240.out 2).trans rfl;have hcz7_3 : w6.cell? ⟨gb240,3,none⟩ = some (.int .i64 a0_3):=(blk_cell BK240.out 3).trans rfl;have hcz7_4 : w6.cell? ⟨gb240,4,none⟩ = some (.int .i64 a0_4):=(blk_cell BK240.out 4).trans rfl;have hcz7_5 : w6.cell? ⟨gb240,5,none⟩ = some (.int .i64 a0_5):=(blk_cell BK240.out 5).trans rfl;have hcz7_6 : w6.cell? ⟨gb240,6,none⟩ = some (.int .i64 a0_6):=(blk_cell BK240.out 6).trans rfl;have hcz7_7 : w6.cell? ⟨gb240,7,none⟩ = some (.int .i64 a0_7):=(blk_cell BK240.out 7).trans rfl;have hfz7_0:=blk_frozen BK240.out 0;have hfz7_1:=blk_frozen BK240.out 1;have hfz7_2:=blk_frozen BK240.out 2;have hfz7_3:=blk_frozen BK240.out 3;have hfz7_4:=blk_frozen BK240.out 4;have hfz7_5:=blk_frozen BK240.out 5;have hfz7_6:=blk_frozen BK240.out 6;have hfz7_7:=blk_frozen BK240.out 7)|(go_at_call 34;(with_reducible refine (gangsawref09_Name.calls k a0_0 t241 _ A5.out).mono ?_);rintro e w' ⟨rfl,⟨nd,rfl⟩⟩;(try first|exact ⟨rfl,_,World.drewN_drewN _ _ _⟩|exact ⟨rfl,_,Eq.trans (World.drewN_drewN _ _ _) (congrArg (World.drewN _) (Nat.add_assoc _ _ _))⟩)));try go_wp2_with (first|((with_reducible refine gate_dst (N:=2) rfl ?_);refine box_event ?hg (N:=2) ?hd (cs:=#[.string a0_0,.int .i64 a0_1,.int .i64 a0_2,.int .i64 a0_3,.int .i64 a0_4,.int .i64 a0_5,.int .i64 a0_6,.int .i64 a0_7]) (t:=24) ?hr ?_;(case hd=>rfl);(case hg=>rfl);(case hr=>first|(go_simp;done)|(go_simp;rfl));intro gb240 hg w6 hbox hb;have n0_:=am (below_step (by repeat (first|(with_reducible first|exact HB.out|apply lA|apply lN|apply lD)|exact HB.out)) hb);have n1_:=am (hbox);have n2_:=am ((by rw [hg];exact (below_size (by repeat (first|(with_reducible first|exact HB.out|apply lA|apply lN|apply lD)|exact HB.out))) : w.heap.size ≤ gb240));have n3_:=am ((by rw [hg];exact (below_size (by repeat (first|(with_reducible first|exact HB.out|apply lA|apply lN|apply lD)|exact HB.out))) : w.heap.size ≤ gb240));clear HB;have HB:=n0_;have BK240:=n1_;have GW240:=n2_;have GE240:=n3_;clear n0_ n1_ n2_ n3_;clear hb hbox hg;have hcz7_0 : w6.cell? ⟨gb240,0,none⟩ = some (.string a0_0):=(blk_cell BK240.out 0).trans rfl;have hcz7_1 : w6.cell? ⟨gb240,1,none⟩ = some (.int .i64 a0_1):=(blk_cell BK240.out 1).trans rfl;have hcz7_2 : w6.cell? ⟨gb240,2,none⟩ = some (.int .i64 a0_2):=(blk_cell BK240.out 2).trans rfl;have hcz7_3 : w6.cell? ⟨gb240,3,none⟩ = some (.int .i64 a0_3):=(blk_cell BK240.out 3).trans rfl;have hcz7_4 : w6.cell? ⟨gb240,4,none⟩ = some (.int .i64 a0_4):=(blk_cell BK240.out 4).trans rfl;have hcz7_5 : w6.cell? ⟨gb240,5,none⟩ = some (.int .i64 a0_5):=(blk_cell BK240.out 5).trans rfl;have hcz7_6 : w6.cell? ⟨gb240,6,none⟩ = some (.int .i64 a0_6):=(blk_cell BK240.out 6).trans rfl;have hcz7_7 : w6.cell? ⟨gb240,7,none⟩ = some (.int .i64 a0_7):=(blk_cell BK240.out 7).trans rfl;have hfz7_0:=blk_frozen BK240.out 0;have hfz7_1:=blk_frozen BK240.out 1;have hfz7_2:=blk_frozen BK240.out 2;have hfz7_3:=blk_frozen BK240.out 3;have hfz7_4:=blk_frozen BK240.out 4;have hfz7_5:=blk_frozen BK240.out 5;have hfz7_6:=blk_frozen BK240.out 6;have hfz7_7:=blk_frozen BK240.out 7)|(go_at_call 34;(with_reducible refine (gangsawref09_Name.calls k a0_0 t241 _ A5.out).mono ?_);rintro e w' ⟨rfl,⟨nd,rfl⟩⟩;(try first|exact ⟨rfl,_,World.drewN_drewN _ _ _⟩|exact ⟨rfl,_,Eq.trans (World.drewN_drewN _ _ _) (congrArg (World.drewN _) (Nat.add_assoc _ _ _))⟩))))
  go_loopg [5,6] k (fun kq v5 v6 w'=>∃ (x5_1 : Bool) (x6_1 : Int),v5 = .bool x5_1 ∧ v6 = .int .i64 x6_1 ∧ Aside0 (gangsawref54_Check.l0 kq l1 x5_1 x6_1 a0_0 a0_1 a0_2 a0_3 a0_4 a0_5 a0_6 a0_7 = some r) ∧ Aside0 (kq ≤ k) ∧ Aside0 (w'.heap[gb240]? = some (.cells #[.string a0_0,.int .i64 a0_1,.int .i64 a0_2,.int .i64 a0_3,.int .i64 a0_4,.int .i64 a0_5,.int .i64 a0_6,.int .i64 a0_7] 24 (0,0))) ∧ Aside0 (Below w.heap.size w w'))
  case atStart=>exact ⟨(t241),(0),(by first|rfl|(simp;done)|(simp [*];done)),(by first|rfl|(simp;done)|(simp [*];done)),H',⟨Nat.le_refl _⟩,⟨by (with_reducible repeat (first|apply bN|apply bD|apply bA));exact BK240.out⟩,⟨by repeat (first|(with_reducible first|exact HB.out|apply lA|apply lN|apply lD|refine lS ?_ GE240.out)|exact HB.out)⟩⟩
  case round =>
   clear H'
   try clear c1
   try clear p2
   try clear c3
   try clear c3b0
   try clear c3b1
   try clear hcz7_0
   try clear hcz7_1
   try clear hcz7_2
   try clear hcz7_3
   try clear hcz7_4
   try clear hcz7_5
   try clear hcz7_6
   try clear hcz7_7
   try clear hfz7_0
   try clear hfz7_1
   try clear hfz7_2
   try clear hfz7_3
   try clear hfz7_4
   try clear hfz7_5
   try clear hfz7_6
   try clear hfz7_7
   obtain ⟨x5_1,x6_1,rfl,rfl,HA,HK1,BK240,HB⟩ := hrel
   cases gk with
   | zero=>exact absurd HA.out (by simp [gangsawref54_Check.l0])
   | succ k1 =>
    have H:=HA.out;clear HA;simp only [gangsawref54_Check.l0] at H;by_cases c8 : x6_1 < (l1.length : Int)
    ·rw [if_pos c8] at H;have c8b0 : decide (x6_1 < (l1.length : Int)) = true:=decide_eq_true c8;clear c8;by_cases c9 : x5_1 = true
     ·subst c9
      have H1 : (if 0 ≤ x6_1 then ((gangsawref09_Name.f k1 ((rd_T65 l1 x6_1).f0)).bind fun t243=>(gangsawref54_Check.l0 k1 l1 t243 (wrap64 (x6_1 + 1)) a0_0 a0_1 a0_2 a0_3 a0_4 a0_5 a0_6 a0_7)) else (none)) = some r:=by rw [if_pos rfl] at H;exact H
      clear H;have H:=H1;clear H1;by_cases c10 : 0 ≤ x6_1
      ·rw [if_pos c10] at H;have c10b0 : decide (0 ≤ x6_1) = true:=decide_eq_true c10;clear c10;replace H:=Option.bind_eq_some_iff.mp H;obtain ⟨t243,A110,H⟩ := H;replace H : (gangsawref54_Check.l0 k1 l1 t243 (wrap64 (x6_1 + 1)) a0_0 a0_1 a0_2 a0_3 a0_4 a0_5 a0_6 a0_7) = some r:=H;have A11:=am A110;clear A110;have H':=am H;clear H;have p242 : 0 ≤ (x6_1 : Int):=of_decide_eq_true (by first|(with_reducible assumption)|assumption);have q242 : x6_1 < (l1.length : Int):=of_decide_eq_true (by first|(with_reducible assumption)|assumption);obtain ⟨ad242,e242,hx242_0,hx242_1,hx242_2⟩ := at_T65 HR1.out x6_1 p242 q242
       cases e242
       replace hx242_0:=(HB.out.cell (World.block_lt_of_cell? w _ hx242_0)).trans hx242_0;replace hx242_1:=(HB.out.cell (World.block_lt_of_cell? w _ hx242_1)).trans hx242_1;replace hx242_2:=(HB.out.cell (World.block_lt_of_cell? w _ hx242_2)).trans hx242_2;replace p242:=eq_true p242;replace q242:=eq_true q242
       go_wp2_with (first|(go_at_call 34;(with_reducible refine (gangsawref09_Name.calls k1 ((rd_T65 l1 x6_1).f0) t243 _ A11.out).mono ?_);rintro e w' ⟨rfl,⟨nd,rfl⟩⟩;(try first|exact ⟨rfl,_,World.drewN_drewN _ _ _⟩|exact ⟨rfl,_,Eq.trans (World.drewN_drewN _ _ _) (congrArg (World.drewN _) (Nat.add_assoc _ _ _))⟩)))
       repeat (go_quiet (first|(go_at_call 34;(with_reducible refine (gangsawref09_Name.calls k1 ((rd_T65 l1 x6_1).f0) t243 _ A11.out).mono ?_);rintro e w' ⟨rfl,⟨nd,rfl⟩⟩;(try first|exact ⟨rfl,_,World.drewN_drewN _ _ _⟩|exact ⟨rfl,_,Eq.trans (World.drewN_drewN _ _ _) (congrArg (World.drewN _) (Nat.add_assoc _ _ _))⟩)));try go_wp2_with (first|(go_at_call 34;(with_reducible refine (gangsawref09_Name.calls k1 ((rd_T65 l1 x6_1).f0) t243 _ A11.out).mono ?_);rintro e w' ⟨rfl,⟨nd,rfl⟩⟩;(try first|exact ⟨rfl,_,World.drewN_drewN _ _ _⟩|exact ⟨rfl,_,Eq.trans (World.drewN_drewN _ _ _) (congrArg (World.drewN _) (Nat.add_assoc _ _ _))⟩))))
       go_roundg k1
       case measure=>have:=HK1.out;omega
       case rel=>exact ⟨(t243),(wrap64 (x6_1 + 1)),(by first|rfl|(simp;done)|(simp [*];done)),(by first|rfl|(simp;done)|(simp [*];done)),H',⟨by have:=HK1.out;omega⟩,⟨by (with_reducible repeat (first|apply bN|apply bD|apply bA));exact BK240.out⟩,⟨by repeat (first|(with_reducible first|exact HB.out|apply lA|apply lN|apply lD|refine lS ?_ GE240.out)|exact HB.out)⟩⟩
      (rw [if_neg c10] at H;exact absurd H (by simp))
     ·replace c9:=Bool.eq_false_iff.mpr c9;subst c9
      have H1 : (gangsawref54_Check.l0 k1 l1 false (wrap64 (x6_1 + 1)) a0_0 a0_1 a0_2 a0_3 a0_4 a0_5 a0_6 a0_7) = some r:=by rw [if_neg (show ¬ (false = true) by decide)] at H;exact H
      clear H;have H:=H1;clear H1;have H':=am H;clear H
      go_wp2
      repeat (go_quiet (fail);try go_wp2)
      go_roundg k1
      case measure=>have:=HK1.out;omega
      case rel=>exact ⟨(false),(wrap64 (x6_1 + 1)),(by first|rfl|(simp;done)|(simp [*];done)),(by first|rfl|(simp;done)|(simp [*];done)),H',⟨by have:=HK1.out;omega⟩,⟨by (with_reducible repeat (first|apply bN|apply bD|apply bA));exact BK240.out⟩,⟨by repeat (first|(with_reducible first|exact HB.out|apply lA|apply lN|apply lD|refine lS ?_ GE240.out)|exact HB.out)⟩⟩
    ·rw [if_neg c8] at H;have c8b0 : decide (x6_1 < (l1.length : Int)) = false:=decide_eq_false c8;clear c8;by_cases c12 : x5_1 = true
     ·subst c12
      have H1 : ((gangsawref54_truck.f a0_0 a0_1 a0_2 a0_3 a0_4 a0_5 a0_6 a0_7).bind fun t244=>(gangsawref54_Check.l1 k1 l1 t244 0)) = some r:=by rw [if_pos rfl] at H;exact H
      clear H;have H:=H1;clear H1;replace H:=Option.bind_eq_some_iff.mp H;obtain ⟨t244,A130,H⟩ := H;replace H : (gangsawref54_Check.l1 k1 l1 t244 0) = some r:=H;have A13:=am A130;clear A130;have H':=am H;clear H;have hcz14_0 : wr.cell? ⟨gb240,0,none⟩ = some (.string a0_0):=(blk_cell BK240.out 0).trans rfl;have hcz14_1 : wr.cell? ⟨gb240,1,none⟩ = some (.int .i64 a0_1):=(blk_cell BK240.out 1).trans rfl;have hcz14_2 : wr.cell? ⟨gb240,2,none⟩ = some (.int .i64 a0_2):=(blk_cell BK240.out 2).trans rfl;have hcz14_3 : wr.cell? ⟨gb240,3,none⟩ = some (.int .i64 a0_3):=(blk_cell BK240.out 3).trans rfl;have hcz14_4 : wr.cell? ⟨gb240,4,none⟩ = some (.int .i64 a0_4):=(blk_cell BK240.out 4).trans rfl;have hcz14_5 : wr.cell? ⟨gb240,5,none⟩ = some (.int .i64 a0_5):=(blk_cell BK240.out 5).trans rfl;have hcz14_6 : wr.cell? ⟨gb240,6,none⟩ = some (.int .i64 a0_6):=(blk_cell BK240.out 6).trans rfl;have hcz14_7 : wr.cell? ⟨gb240,7,none⟩ = some (.int .i64 a0_7):=(blk_cell BK240.out 7).trans rfl;have hfz14_0:=blk_frozen BK240.out 0;have hfz14_1:=blk_frozen BK240.out 1;have hfz14_2:=blk_frozen BK240.out 2;have hfz14_3:=blk_frozen BK240.out 3;have hfz14_4:=blk_frozen BK240.out 4;have hfz14_5:=blk_frozen BK240.out 5;have hfz14_6:=blk_frozen BK240.out 6;have hfz14_7:=blk_frozen BK240.out 7
      go_wp2_with (first|(go_at_call 35;(with_reducible refine (gangsawref54_truck.calls a0_0 a0_1 a0_2 a0_3 a0_4 a0_5 a0_6 a0_7 t244 _ A13.out).mono ?_);rintro e w15 ⟨rfl,hb⟩;have n0_:=am (blk_below (g:=gb240) (o:=.cells #[.string a0_0,.int .i64 a0_1,.int .i64 a0_2,.int .i64 a0_3,.int .i64 a0_4,.int .i64 a0_5,.int .i64 a0_6,.int .i64 a0_7] 24 (0,0)) (by (with_reducible repeat (first|apply bN|apply bD|apply bA));exact BK240.out) hb);have n1_:=am (below_step (by repeat (first|(with_reducible first|exact HB.out|apply lA|apply lN|apply lD|refine lS ?_ GE240.out)|exact HB.out)) hb);clear BK240;clear HB;have BK240:=n0_;have HB:=n1_;clear n0_ n1_;(try clear hb);(try clear hb2);(try clear hk);(try clear hi)))
      repeat (go_quiet (first|(go_at_call 35;(with_reducible refine (gangsawref54_truck.calls a0_0 a0_1 a0_2 a0_3 a0_4 a0_5 a0_6 a0_7 t244 _ A13.out).mono ?_);rintro e w15 ⟨rfl,hb⟩;have n0_:=am (blk_below (g:=gb240) (o:=.cells #[.string a0_0,.int .i64 a0_1,.int .i64 a0_2,.int .i64 a0_3,.int .i64 a0_4,.int .i64 a0_5,.int .i64 a0_6,.int .i64 a0_7] 24 (0,0)) (by (with_reducible repeat (first|apply bN|apply bD|apply bA));exact BK240.out) hb);have n1_:=am (below_step (by repeat (first|(with_reducible first|exact HB.out|apply lA|apply lN|apply lD|refine lS ?_ GE240.out)|exact HB.out)) hb);clear BK240;clear HB;have BK240:=n0_;have HB:=n1_;clear n0_ n1_;(try clear hb);(try clear hb2);(try clear hk);(try clear hi)));try go_wp2_with (first|(go_at_call 35;(with_reducible refine (gangsawref54_truck.calls a0_0 a0_1 a0_2 a0_3 a0_4 a0_5 a0_6 a0_7 t244 _ A13.out).mono ?_);rintro e w15 ⟨rfl,hb⟩;have n0_:=am (blk_below (g:=gb240) (o:=.cells #[.string a0_0,.int .i64 a0_1,.int .i64 a0_2,.int .i64 a0_3,.int .i64 a0_4,.int .i64 a0_5,.int .i64 a0_6,.int .i64 a0_7] 24 (0,0)) (by (with_reducible repeat (first|apply bN|apply bD|apply bA));exact BK240.out) hb);have n1_:=am (below_step (by repeat (first|(with_reducible first|exact HB.out|apply lA|apply lN|apply lD|refine lS ?_ GE240.out)|exact HB.out)) hb);clear BK240;clear HB;have BK240:=n0_;have HB:=n1_;clear n0_ n1_;(try clear hb);(try clear hb2);(try clear hk);(try clear hi))))
      go_loopg [5,7] k1 (fun kq v5 v7 w'=>∃ (x5_2 : Bool) (x7_2 : Int),v5 = .bool x5_2 ∧ v7 = .int .i64 x7_2 ∧ Aside0 (gangsawref54_Check.l1 kq l1 x5_2 x7_2 = some r) ∧ Aside0 (kq ≤ k1) ∧ Aside0 (w'.heap[gb240]? = some (.cells #[.string a0_0,.int .i64 a0_1,.int .i64 a0_2,.int .i64 a0_3,.int .i64 a0_4,.int .i64 a0_5,.int .i64 a0_6,.int .i64 a0_7] 24 (0,0))) ∧ Aside0 (Below w.heap.size w w'))
      case atStart=>exact ⟨(t244),(0),(by first|rfl|(simp;done)|(simp [*];done)),(by first|rfl|(simp;done)|(simp [*];done)),H',⟨Nat.le_refl _⟩,⟨by (with_reducible repeat (first|apply bN|apply bD|apply bA));exact BK240.out⟩,⟨by repeat (first|(with_reducible first|exact HB.out|apply lA|apply lN|apply lD|refine lS ?_ GE240.out)|exact HB.out)⟩⟩
      case round =>
       clear H'
       try clear c1
       try clear p2
       try clear q2
       try clear hx2
       try clear c3
       try clear c3b0
       try clear c3b1
       try clear p6
       try clear c8
       try clear c8b0
       try clear c9
       try clear c10
       try clear c10b0
       try clear c12
       try clear hcz14_0
       try clear hcz14_1
       try clear hcz14_2
       try clear hcz14_3
       try clear hcz14_4
       try clear hcz14_5
       try clear hcz14_6
       try clear hcz14_7
       try clear hcz7_0
       try clear hcz7_1
       try clear hcz7_2
       try clear hcz7_3
       try clear hcz7_4
       try clear hcz7_5
       try clear hcz7_6
       try clear hcz7_7
       try clear hfz14_0
       try clear hfz14_1
       try clear hfz14_2
       try clear hfz14_3
       try clear hfz14_4
       try clear hfz14_5
       try clear hfz14_6
       try clear hfz14_7
       try clear hfz7_0
       try clear hfz7_1
       try clear hfz7_2
       try clear hfz7_3
       try clear hfz7_4
       try clear hfz7_5
       try clear hfz7_6
       try clear hfz7_7
       try clear hx242_0
       try clear hx242_1
       try clear hx242_2
       try clear p2
       try clear p242
       try clear q242
       obtain ⟨x5_2,x7_2,rfl,rfl,HA,HK2,BK240,HB⟩ := hrel
       cases gk with
       | zero=>exact absurd HA.out (by simp [gangsawref54_Check.l1])
       | succ k2 =>
        have H:=HA.out;clear HA;simp only [gangsawref54_Check.l1] at H;by_cases c16 : x7_2 < (l1.length : Int)
        ·rw [if_pos c16] at H;have c16b0 : decide (x7_2 < (l1.length : Int)) = true:=decide_eq_true c16;clear c16;by_cases c17 : x5_2 = true
         ·subst c17
          have H1 : (if 0 ≤ x7_2 then ((gangsawref54_in.f ((rd_T65 l1 x7_2).f1) 1 30000).bind fun t246=>(if t246 = true then ((gangsawref54_in.f ((rd_T65 l1 x7_2).f2) 1 1000000000).bind fun t248=>(gangsawref54_Check.l1 k2 l1 t248 (wrap64 (x7_2 + 1)))) else (gangsawref54_Check.l1 k2 l1 false (wrap64 (x7_2 + 1))))) else (none)) = some r:=by rw [if_pos rfl] at H;exact H
          clear H;have H:=H1;clear H1;by_cases c18 : 0 ≤ x7_2
          ·rw [if_pos c18] at H;have c18b0 : decide (0 ≤ x7_2) = true:=decide_eq_true c18;clear c18;replace H:=Option.bind_eq_some_iff.mp H;obtain ⟨t246,A190,H⟩ := H;replace H : (if t246 = true then ((gangsawref54_in.f ((rd_T65 l1 x7_2).f2) 1 1000000000).bind fun t248=>(gangsawref54_Check.l1 k2 l1 t248 (wrap64 (x7_2 + 1)))) else (gangsawref54_Check.l1 k2 l1 false (wrap64 (x7_2 + 1)))) = some r:=H;have A19:=am A190;clear A190;by_cases c20 : t246 = true
           ·subst c20
            have H1 : ((gangsawref54_in.f ((rd_T65 l1 x7_2).f2) 1 1000000000).bind fun t248=>(gangsawref54_Check.l1 k2 l1 t248 (wrap64 (x7_2 + 1)))) = some r:=by rw [if_pos rfl] at H;exact H
            clear H;have H:=H1;clear H1;replace H:=Option.bind_eq_some_iff.mp H;obtain ⟨t248,A210,H⟩ := H;replace H : (gangsawref54_Check.l1 k2 l1 t248 (wrap64 (x7_2 + 1))) = some r:=H;have A21:=am A210;clear A210;have H':=am H;clear H;have p245 : 0 ≤ (x7_2 : Int):=of_decide_eq_true (by first|(with_reducible assumption)|assumption);have q245 : x7_2 < (l1.length : Int):=of_decide_eq_true (by first|(with_reducible assumption)|assumption);obtain ⟨ad245,e245,hx245_0,hx245_1,hx245_2⟩ := at_T65 HR1.out x7_2 p245 q245
            cases e245
            replace hx245_0:=(HB.out.cell (World.block_lt_of_cell? w _ hx245_0)).trans hx245_0;replace hx245_1:=(HB.out.cell (World.block_lt_of_cell? w _ hx245_1)).trans hx245_1;replace hx245_2:=(HB.out.cell (World.block_lt_of_cell? w _ hx245_2)).trans hx245_2;replace p245:=eq_true p245;replace q245:=eq_true q245
            go_wp2_with (first|(go_at_call 36;(with_reducible refine (gangsawref54_in.calls ((rd_T65 l1 x7_2).f1) 1 30000 true _ A19.out).mono ?_);rintro e w' ⟨rfl,⟨nd,rfl⟩⟩;(try first|exact ⟨rfl,_,World.drewN_drewN _ _ _⟩|exact ⟨rfl,_,Eq.trans (World.drewN_drewN _ _ _) (congrArg (World.drewN _) (Nat.add_assoc _ _ _))⟩);have p247 : 0 ≤ (x7_2 : Int):=of_decide_eq_true (by first|(with_reducible assumption)|assumption);have q247 : x7_2 < (l1.length : Int):=of_decide_eq_true (by first|(with_reducible assumption)|assumption);obtain ⟨ad247,e247,hx247_0,hx247_1,hx247_2⟩ := at_T65 HR1.out x7_2 p247 q247;obtain rfl : ad245 = ad247:=(by injection e247);replace hx247_0:=(HB.out.cell (World.block_lt_of_cell? w _ hx247_0)).trans hx247_0;replace hx247_1:=(HB.out.cell (World.block_lt_of_cell? w _ hx247_1)).trans hx247_1;replace hx247_2:=(HB.out.cell (World.block_lt_of_cell? w _ hx247_2)).trans hx247_2;replace p247:=eq_true p247;replace q247:=eq_true q247)|(go_at_call 36;(with_reducible refine (gangsawref54_in.calls ((rd_T65 l1 x7_2).f2) 1 1000000000 t248 _ A21.out).mono ?_);rintro e w' ⟨rfl,⟨nd,rfl⟩⟩;(try first|exact ⟨rfl,_,World.drewN_drewN _ _ _⟩|exact ⟨rfl,_,Eq.trans (World.drewN_drewN _ _ _) (congrArg (World.drewN _) (Nat.add_assoc _ _ _))⟩)))
            repeat (go_quiet (first|(go_at_call 36;(with_reducible refine (gangsawref54_in.calls ((rd_T65 l1 x7_2).f1) 1 30000 true _ A19.out).mono ?_);rintro e w' ⟨rfl,⟨nd,rfl⟩⟩;(try first|exact ⟨rfl,_,World.drewN_drewN _ _ _⟩|exact ⟨rfl,_,Eq.trans (World.drewN_drewN _ _ _) (congrArg (World.drewN _) (Nat.add_assoc _ _ _))⟩);have p247 : 0 ≤ (x7_2 : Int):=of_decide_eq_true (by first|(with_reducible assumption)|assumption);have q247 : x7_2 < (l1.length : Int):=of_decide_eq_true (by first|(with_reducible assumption)|assumption);obtain ⟨ad247,e247,hx247_0,hx247_1,hx247_2⟩ := at_T65 HR1.out x7_2 p247 q247;obtain rfl : ad245 = ad247:=(by injection e247);replace hx247_0:=(HB.out.cell (World.block_lt_of_cell? w _ hx247_0)).trans hx247_0;replace hx247_1:=(HB.out.cell (World.block_lt_of_cell? w _ hx247_1)).trans hx247_1;replace hx247_2:=(HB.out.cell (World.block_lt_of_cell? w _ hx247_2)).trans hx247_2;replace p247:=eq_true p247;replace q247:=eq_true q247)|(go_at_call 36;(with_reducible refine (gangsawref54_in.calls ((rd_T65 l1 x7_2).f2) 1 1000000000 t248 _ A21.out).mono ?_);rintro e w' ⟨rfl,⟨nd,rfl⟩⟩;(try first|exact ⟨rfl,_,World.drewN_drewN _ _ _⟩|exact ⟨rfl,_,Eq.trans (World.drewN_drewN _ _ _) (congrArg (World.drewN _) (Nat.add_assoc _ _ _))⟩)));try go_wp2_with (first|(go_at_call 36;(with_reducible refine (gangsawref54_in.calls ((rd_T65 l1 x7_2).f1) 1 30000 true _ A19.out).mono ?_);rintro e w' ⟨rfl,⟨nd,rfl⟩⟩;(try first|exact ⟨rfl,_,World.drewN_drewN _ _ _⟩|exact ⟨rfl,_,Eq.trans (World.drewN_drewN _ _ _) (congrArg (World.drewN _) (Nat.add_assoc _ _ _))⟩);have p247 : 0 ≤ (x7_2 : Int):=of_decide_eq_true (by first|(with_reducible assumption)|assumption);have q247 : x7_2 < (l1.length : Int):=of_decide_eq_true (by first|(with_reducible assumption)|assumption);obtain ⟨ad247,e247,hx247_0,hx247_1,hx247_2⟩ := at_T65 HR1.out x7_2 p247 q247;obtain rfl : ad245 = ad247:=(by injection e247);replace hx247_0:=(HB.out.cell (World.block_lt_of_cell? w _ hx247_0)).trans hx247_0;replace hx247_1:=(HB.out.cell (World.block_lt_of_cell? w _ hx247_1)).trans hx247_1;replace hx247_2:=(HB.out.cell (World.block_lt_of_cell? w _ hx247_2)).trans hx247_2;replace p247:=eq_true p247;replace q247:=eq_true q247)|(go_at_call 36;(with_reducible refine (gangsawref54_in.calls ((rd_T65 l1 x7_2).f2) 1 1000000000 t248 _ A21.out).mono ?_);rintro e w' ⟨rfl,⟨nd,rfl⟩⟩;(try first|exact ⟨rfl,_,World.drewN_drewN _ _ _⟩|exact ⟨rfl,_,Eq.trans (World.drewN_drewN _ _ _) (congrArg (World.drewN _) (Nat.add_assoc _ _ _))⟩))))
            go_roundg k2
            case measure=>have:=HK1.out;have:=HK2.out;omega
            case rel=>exact ⟨(t248),(wrap64 (x7_2 + 1)),(by first|rfl|(simp;done)|(simp [*];done)),(by first|rfl|(simp;done)|(simp [*];done)),H',⟨by have:=HK1.out;have:=HK2.out;omega⟩,⟨by (with_reducible repeat (first|apply bN|apply bD|apply bA));exact BK240.out⟩,⟨by repeat (first|(with_reducible first|exact HB.out|apply lA|apply lN|apply lD|refine lS ?_ GE240.out)|exact HB.out)⟩⟩
           ·replace c20:=Bool.eq_false_iff.mpr c20;subst c20
            have H1 : (gangsawref54_Check.l1 k2 l1 false (wrap64 (x7_2 + 1))) = some r:=by rw [if_neg (show ¬ (false = true) by decide)] at H;exact H
            clear H;have H:=H1;clear H1;have H':=am H;clear H;have p245 : 0 ≤ (x7_2 : Int):=of_decide_eq_true (by first|(with_reducible assumption)|assumption);have q245 : x7_2 < (l1.length : Int):=of_decide_eq_true (by first|(with_reducible assumption)|assumption);obtain ⟨ad245,e245,hx245_0,hx245_1,hx245_2⟩ := at_T65 HR1.out x7_2 p245 q245
            cases e245
            replace hx245_0:=(HB.out.cell (World.block_lt_of_cell? w _ hx245_0)).trans hx245_0;replace hx245_1:=(HB.out.cell (World.block_lt_of_cell? w _ hx245_1)).trans hx245_1;replace hx245_2:=(HB.out.cell (World.block_lt_of_cell? w _ hx245_2)).trans hx245_2;replace p245:=eq_true p245;replace q245:=eq_true q245
            go_wp2_with (first|(go_at_call 36;(with_reducible refine (gangsawref54_in.calls ((rd_T65 l1 x7_2).f1) 1 30000 false _ A19.out).mono ?_);rintro e w' ⟨rfl,⟨nd,rfl⟩⟩;(try first|exact ⟨rfl,_,World.drewN_drewN _ _ _⟩|exact ⟨rfl,_,Eq.trans (World.drewN_drewN _ _ _) (congrArg (World.drewN _) (Nat.add_assoc _ _ _))⟩)))
            repeat (go_quiet (first|(go_at_call 36;(with_reducible refine (gangsawref54_in.calls ((rd_T65 l1 x7_2).f1) 1 30000 false _ A19.out).mono ?_);rintro e w' ⟨rfl,⟨nd,rfl⟩⟩;(try first|exact ⟨rfl,_,World.drewN_drewN _ _ _⟩|exact ⟨rfl,_,Eq.trans (World.drewN_drewN _ _ _) (congrArg (World.drewN _) (Nat.add_assoc _ _ _))⟩)));try go_wp2_with (first|(go_at_call 36;(with_reducible refine (gangsawref54_in.calls ((rd_T65 l1 x7_2).f1) 1 30000 false _ A19.out).mono ?_);rintro e w' ⟨rfl,⟨nd,rfl⟩⟩;(try first|exact ⟨rfl,_,World.drewN_drewN _ _ _⟩|exact ⟨rfl,_,Eq.trans (World.drewN_drewN _ _ _) (congrArg (World.drewN _) (Nat.add_assoc _ _ _))⟩))))
            go_roundg k2
            case measure=>have:=HK1.out;have:=HK2.out;omega
            case rel=>exact ⟨(false),(wrap64 (x7_2 + 1)),(by first|rfl|(simp;done)|(simp [*];done)),(by first|rfl|(simp;done)|(simp [*];done)),H',⟨by have:=HK1.out;have:=HK2.out;omega⟩,⟨by (with_reducible repeat (first|apply bN|apply bD|apply bA));exact BK240.out⟩,⟨by repeat (first|(with_reducible first|exact HB.out|apply lA|apply lN|apply lD|refine lS ?_ GE240.out)|exact HB.out)⟩⟩
          (rw [if_neg c18] at H;exact absurd H (by simp))
         ·replace c17:=Bool.eq_false_iff.mpr c17;subst c17
          have H1 : (gangsawref54_Check.l1 k2 l1 false (wrap64 (x7_2 + 1))) = some r:=by rw [if_neg (show ¬ (false = true) by decide)] at H;exact H
          clear H;have H:=H1;clear H1;have H':=am H;clear H
          go_wp2
          repeat (go_quiet (fail);try go_wp2)
          go_roundg k2
          case measure=>have:=HK1.out;have:=HK2.out;omega
          case rel=>exact ⟨(false),(wrap64 (x7_2 + 1)),(by first|rfl|(simp;done)|(simp [*];done)),(by first|rfl|(simp;done)|(simp [*];done)),H',⟨by have:=HK1.out;have:=HK2.out;omega⟩,⟨by (with_reducible repeat (first|apply bN|apply bD|apply bA));exact BK240.out⟩,⟨by repeat (first|(with_reducible first|exact HB.out|apply lA|apply lN|apply lD|refine lS ?_ GE240.out)|exact HB.out)⟩⟩
        ·rw [if_neg c16] at H;have c16b0 : decide (x7_2 < (l1.length : Int)) = false:=decide_eq_false c16;clear c16;by_cases c22 : x5_2 = true
         ·subst c22
          have H1 : (gangsawref54_Check.l2 k2 l1 0) = some r:=by rw [if_pos rfl] at H;exact H
          clear H;have H:=H1;clear H1;have H':=am H;clear H
          go_wp2
          repeat (go_quiet (fail);try go_wp2)
          go_loopg [8] k2 (fun kq v8 w'=>∃ (x8_3 : Int),v8 = .int .i64 x8_3 ∧ Aside0 (gangsawref54_Check.l2 kq l1 x8_3 = some r) ∧ Aside0 (kq ≤ k2) ∧ Aside0 (w'.heap[gb240]? = some (.cells #[.string a0_0,.int .i64 a0_1,.int .i64 a0_2,.int .i64 a0_3,.int .i64 a0_4,.int .i64 a0_5,.int .i64 a0_6,.int .i64 a0_7] 24 (0,0))) ∧ Aside0 (Below w.heap.size w w'))
          case atStart=>exact ⟨(0),(by first|rfl|(simp;done)|(simp [*];done)),H',⟨Nat.le_refl _⟩,⟨by (with_reducible repeat (first|apply bN|apply bD|apply bA));exact BK240.out⟩,⟨by repeat (first|(with_reducible first|exact HB.out|apply lA|apply lN|apply lD|refine lS ?_ GE240.out)|exact HB.out)⟩⟩
          case round =>
           clear H'
           try clear c1
           try clear c2
           try clear p2
           try clear q2
           try clear hx2
           try clear c3
           try clear c3b0
           try clear c3b1
           try clear p6
           try clear c8
           try clear c8b0
           try clear c9
           try clear c10
           try clear c10b0
           try clear c12
           try clear c16
           try clear c16b0
           try clear c17
           try clear c18
           try clear c18b0
           try clear c20
           try clear c22
           try clear hcz14_0
           try clear hcz14_1
           try clear hcz14_2
           try clear hcz14_3
           try clear hcz14_4
           try clear hcz14_5
           try clear hcz14_6
           try clear hcz14_7
           try clear hcz7_0
           try clear hcz7_1
           try clear hcz7_2
           try clear hcz7_3
           try clear hcz7_4
           try clear hcz7_5
           try clear hcz7_6
           try clear hcz7_7
           try clear hfz14_0
           try clear hfz14_1
           try clear hfz14_2
           try clear hfz14_3
           try clear hfz14_4
           try clear hfz14_5
           try clear hfz14_6
           try clear hfz14_7
           try clear hfz7_0
           try clear hfz7_1
           try clear hfz7_2
           try clear hfz7_3
           try clear hfz7_4
           try clear hfz7_5
           try clear hfz7_6
           try clear hfz7_7
           try clear hx242_0
           try clear hx242_1
           try clear hx242_2
           try clear hx245_0
           try clear hx245_1
           try clear hx245_2
           try clear hx247_0
           try clear hx247_1
           try clear hx247_2
           try clear p2
           try clear p242
           try clear p245
           try clear p247
           try clear p6
           try clear q2
           try clear q242
           try clear q245
           try clear q247
           obtain ⟨x8_3,rfl,HA,HK3,BK240,HB⟩ := hrel
           cases gk with
           | zero=>exact absurd HA.out (by simp [gangsawref54_Check.l2])
           | succ k3 =>
            have H:=HA.out;clear HA;simp only [gangsawref54_Check.l2] at H;by_cases c23 : x8_3 < (l1.length : Int)
            ·rw [if_pos c23] at H;have c23b0 : decide (x8_3 < (l1.length : Int)) = true:=decide_eq_true c23;clear c23;have H':=am H;clear H
             go_wp2
             repeat (go_quiet (fail);try go_wp2)
             go_loopg [9] k3 (fun kq v9 w'=>∃ (x9_4 : Int),v9 = .int .i64 x9_4 ∧ Aside0 (gangsawref54_Check.l3 kq l1 x8_3 x9_4 = some r) ∧ Aside0 (kq ≤ k3) ∧ Aside0 (w'.heap[gb240]? = some (.cells #[.string a0_0,.int .i64 a0_1,.int .i64 a0_2,.int .i64 a0_3,.int .i64 a0_4,.int .i64 a0_5,.int .i64 a0_6,.int .i64 a0_7] 24 (0,0))) ∧ Aside0 (Below w.heap.size w w'))
             case atStart=>exact ⟨(0),(by first|rfl|(simp;done)|(simp [*];done)),H',⟨Nat.le_refl _⟩,⟨by (with_reducible repeat (first|apply bN|apply bD|apply bA));exact BK240.out⟩,⟨by repeat (first|(with_reducible first|exact HB.out|apply lA|apply lN|apply lD|refine lS ?_ GE240.out)|exact HB.out)⟩⟩
             case round =>
              clear H'
              try clear c1
              try clear c2
              try clear p2
              try clear q2
              try clear hx2
              try clear c3
              try clear c3b0
              try clear c3b1
              try clear p6
              try clear c8
              try clear c8b0
              try clear c9
              try clear c10
              try clear c10b0
              try clear c12
              try clear c16
              try clear c16b0
              try clear c17
              try clear c18
              try clear c18b0
              try clear c20
              try clear c22
              try clear c23
              try clear c23b0
              try clear hcz14_0
              try clear hcz14_1
              try clear hcz14_2
              try clear hcz14_3
              try clear hcz14_4
              try clear hcz14_5
              try clear hcz14_6
              try clear hcz14_7
              try clear hcz7_0
              try clear hcz7_1
              try clear hcz7_2
              try clear hcz7_3
              try clear hcz7_4
              try clear hcz7_5
              try clear hcz7_6
              try clear hcz7_7
              try clear hfz14_0
              try clear hfz14_1
              try clear hfz14_2
              try clear hfz14_3
              try clear hfz14_4
              try clear hfz14_5
              try clear hfz14_6
              try clear hfz14_7
              try clear hfz7_0
              try clear hfz7_1
              try clear hfz7_2
              try clear hfz7_3
              try clear hfz7_4
              try clear hfz7_5
              try clear hfz7_6
              try clear hfz7_7
              try clear hx242_0
              try clear hx242_1
              try clear hx242_2
              try clear hx245_0
              try clear hx245_1
              try clear hx245_2
              try clear hx247_0
              try clear hx247_1
              try clear hx247_2
              try clear p2
              try clear p242
              try clear p245
              try clear p247
              try clear p6
              try clear q2
              try clear q242
              try clear q245
              try clear q247
              obtain ⟨x9_4,rfl,HA,HK4,BK240,HB⟩ := hrel
              cases gk with
              | zero=>exact absurd HA.out (by simp [gangsawref54_Check.l3])
              | succ k4 =>
               have H:=HA.out;clear HA;simp only [gangsawref54_Check.l3] at H;by_cases c24 : x9_4 < x8_3
               ·rw [if_pos c24] at H;have c24b0 : decide (x9_4 < x8_3) = true:=decide_eq_true c24;clear c24;by_cases c25 : 0 ≤ x8_3
                ·rw [if_pos c25] at H;have c25b0 : decide (0 ≤ x8_3) = true:=decide_eq_true c25;clear c25;by_cases c26 : x8_3 < (l1.length : Int)
                 ·rw [if_pos c26] at H;have c26b0 : decide (x8_3 < (l1.length : Int)) = true:=decide_eq_true c26;clear c26;by_cases c27 : 0 ≤ x9_4
                  ·rw [if_pos c27] at H;have c27b0 : decide (0 ≤ x9_4) = true:=decide_eq_true c27;clear c27;by_cases c28 : x9_4 < (l1.length : Int)
                   ·rw [if_pos c28] at H;have c28b0 : decide (x9_4 < (l1.length : Int)) = true:=decide_eq_true c28;clear c28;by_cases c29 : ((rd_T65 l1 x8_3).f0).toList = ((rd_T65 l1 x9_4).f0).toList
                    ·rw [if_pos c29] at H;have c29b0 : (((rd_T65 l1 x8_3).f0).toList == ((rd_T65 l1 x9_4).f0).toList) = true:=beq_iff_eq.mpr c29;have c29b1 : (((rd_T65 l1 x8_3).f0).toList != ((rd_T65 l1 x9_4).f0).toList) = false:=bne_eq_false_iff_eq.mpr c29;clear c29;obtain rfl:=Option.some.inj H;have p249 : 0 ≤ (x8_3 : Int):=of_decide_eq_true (by first|(with_reducible assumption)|assumption);have q249 : x8_3 < (l1.length : Int):=of_decide_eq_true (by first|(with_reducible assumption)|assumption);obtain ⟨ad249,e249,hx249_0,hx249_1,hx249_2⟩ := at_T65 HR1.out x8_3 p249 q249
                     cases e249
                     replace hx249_0:=(HB.out.cell (World.block_lt_of_cell? w _ hx249_0)).trans hx249_0;replace hx249_1:=(HB.out.cell (World.block_lt_of_cell? w _ hx249_1)).trans hx249_1;replace hx249_2:=(HB.out.cell (World.block_lt_of_cell? w _ hx249_2)).trans hx249_2;replace p249:=eq_true p249;replace q249:=eq_true q249;have p250 : 0 ≤ (x9_4 : Int):=of_decide_eq_true (by first|(with_reducible assumption)|assumption);have q250 : x9_4 < (l1.length : Int):=of_decide_eq_true (by first|(with_reducible assumption)|assumption);obtain ⟨ad250,e250,hx250_0,hx250_1,hx250_2⟩ := at_T65 HR1.out x9_4 p250 q250
                     obtain rfl : ad249 = ad250:=(by injection e250)
                     replace hx250_0:=(HB.out.cell (World.block_lt_of_cell? w _ hx250_0)).trans hx250_0;replace hx250_1:=(HB.out.cell (World.block_lt_of_cell? w _ hx250_1)).trans hx250_1;replace hx250_2:=(HB.out.cell (World.block_lt_of_cell? w _ hx250_2)).trans hx250_2;replace p250:=eq_true p250;replace q250:=eq_true q250
                     go_wp2
                     repeat (go_quiet (fail);try go_wp2)
                     go_ret
                     exact ⟨by first|rfl|(simp [errW_none,errW_some] <;> rfl)|(simp [*,errW_none,errW_some] <;> rfl),by repeat (first|(with_reducible first|exact HB.out|apply lA|apply lN|apply lD|refine lS ?_ GE240.out)|exact HB.out)⟩
                    ·rw [if_neg c29] at H;have c29b0 : (((rd_T65 l1 x8_3).f0).toList == ((rd_T65 l1 x9_4).f0).toList) = false:=beq_eq_false_iff_ne.mpr c29;have c29b1 : (((rd_T65 l1 x8_3).f0).toList != ((rd_T65 l1 x9_4).f0).toList) = true:=bne_iff_ne.mpr c29;have H':=am H;clear H;have p249 : 0 ≤ (x8_3 : Int):=of_decide_eq_true (by first|(with_reducible assumption)|assumption);have q249 : x8_3 < (l1.length : Int):=of_decide_eq_true (by first|(with_reducible assumption)|assumption);obtain ⟨ad249,e249,hx249_0,hx249_1,hx249_2⟩ := at_T65 HR1.out x8_3 p249 q249
                     cases e249
                     replace hx249_0:=(HB.out.cell (World.block_lt_of_cell? w _ hx249_0)).trans hx249_0;replace hx249_1:=(HB.out.cell (World.block_lt_of_cell? w _ hx249_1)).trans hx249_1;replace hx249_2:=(HB.out.cell (World.block_lt_of_cell? w _ hx249_2)).trans hx249_2;replace p249:=eq_true p249;replace q249:=eq_true q249;have p250 : 0 ≤ (x9_4 : Int):=of_decide_eq_true (by first|(with_reducible assumption)|assumption);have q250 : x9_4 < (l1.length : Int):=of_decide_eq_true (by first|(with_reducible assumption)|assumption);obtain ⟨ad250,e250,hx250_0,hx250_1,hx250_2⟩ := at_T65 HR1.out x9_4 p250 q250
                     obtain rfl : ad249 = ad250:=(by injection e250)
                     replace hx250_0:=(HB.out.cell (World.block_lt_of_cell? w _ hx250_0)).trans hx250_0;replace hx250_1:=(HB.out.cell (World.block_lt_of_cell? w _ hx250_1)).trans hx250_1;replace hx250_2:=(HB.out.cell (World.block_lt_of_cell? w _ hx250_2)).trans hx250_2;replace p250:=eq_true p250;replace q250:=eq_true q250
                     go_wp2
                     repeat (go_quiet (fail);try go_wp2)
                     go_roundg k4
                     case measure=>have:=HK1.out;have:=HK2.out;have:=HK3.out;have:=HK4.out;omega
                     case rel=>exact ⟨(wrap64 (x9_4 + 1)),(by first|rfl|(simp;done)|(simp [*];done)),H',⟨by have:=HK1.out;have:=HK2.out;have:=HK3.out;have:=HK4.out;omega⟩,⟨by (with_reducible repeat (first|apply bN|apply bD|apply bA));exact BK240.out⟩,⟨by repeat (first|(with_reducible first|exact HB.out|apply lA|apply lN|apply lD|refine lS ?_ GE240.out)|exact HB.out)⟩⟩
                   (rw [if_neg c28] at H;exact absurd H (by simp))
                  (rw [if_neg c27] at H;exact absurd H (by simp))
                 (rw [if_neg c26] at H;exact absurd H (by simp))
                (rw [if_neg c25] at H;exact absurd H (by simp))
               ·rw [if_neg c24] at H;have c24b0 : decide (x9_4 < x8_3) = false:=decide_eq_false c24;clear c24;have H':=am H;clear H
                go_wp2
                repeat (go_quiet (fail);try go_wp2)
                go_roundg k4
                case measure=>have:=HK1.out;have:=HK2.out;have:=HK3.out;have:=HK4.out;omega
                case rel=>exact ⟨(wrap64 (x8_3 + 1)),(by first|rfl|(simp;done)|(simp [*];done)),H',⟨by have:=HK1.out;have:=HK2.out;have:=HK3.out;have:=HK4.out;omega⟩,⟨by (with_reducible repeat (first|apply bN|apply bD|apply bA));exact BK240.out⟩,⟨by repeat (first|(with_reducible first|exact HB.out|apply lA|apply lN|apply lD|refine lS ?_ GE240.out)|exact HB.out)⟩⟩
            ·rw [if_neg c23] at H;have c23b0 : decide (x8_3 < (l1.length : Int)) = false:=decide_eq_false c23;clear c23;obtain rfl:=Option.some.inj H
             go_wp2
             repeat (go_quiet (fail);try go_wp2)
             go_ret
             exact ⟨by first|rfl|(simp [errW_none,errW_some] <;> rfl)|(simp [*,errW_none,errW_some] <;> rfl),by repeat (first|(with_reducible first|exact HB.out|apply lA|apply lN|apply lD|refine lS ?_ GE240.out)|exact HB.out)⟩
         ·replace c22:=Bool.eq_false_iff.mpr c22;subst c22
          have H1 : (some 6) = some r:=by rw [if_neg (show ¬ (false = true) by decide)] at H;exact H
          clear H;have H:=H1;clear H1;obtain rfl:=Option.some.inj H
          go_wp2
          repeat (go_quiet (fail);try go_wp2)
          go_ret
          exact ⟨by first|rfl|(simp [errW_none,errW_some] <;> rfl)|(simp [*,errW_none,errW_some] <;> rfl),by repeat (first|(with_reducible first|exact HB.out|apply lA|apply lN|apply lD|refine lS ?_ GE240.out)|exact HB.out)⟩
     ·replace c12:=Bool.eq_false_iff.mpr c12;subst c12
      have H1 : (some 4) = some r:=by rw [if_neg (show ¬ (false = true) by decide)] at H;exact H
      clear H;have H:=H1;clear H1;obtain rfl:=Option.some.inj H
      go_wp2
      repeat (go_quiet (fail);try go_wp2)
      go_ret
      exact ⟨by first|rfl|(simp [errW_none,errW_some] <;> rfl)|(simp [*,errW_none,errW_some] <;> rfl),by repeat (first|(with_reducible first|exact HB.out|apply lA|apply lN|apply lD|refine lS ?_ GE240.out)|exact HB.out)⟩

end Go.Proofs.Ytohcgenhhgipcaa.PA
