-- Written by a program of this session out of the translation,over functions proved by hand.
import Derived.Test.YtnjikioimompnaaPAx0
import Derived.Test.YtnjikioimompnaaPAx7
import Derived.Test.YtnjikioimompnaaPAx8
import Derived.Test.YtnjikioimompnaaPAx9
import Derived.Test.YtnjikioimompnaaGiven
namespace Go.Proofs.Ytnjikioimompnaa.PA
open Go.RowKit Go.Proofs.YtnjikioimompnaaW.PrintWords Go.Proofs.YtnjikioimompnaaW.PrintLast Go.Proofs.YtnjikioimompnaaW.PrintMore
attribute [local go_sem] max2_int min2_int max_two min_two max_three min_three max_four min_four   -- for this text's walks alone
set_option linter.unusedVariables false
set_option linter.unusedSimpArgs false
noncomputable section

mutual
def gangsawlaw39_ProfileSides.l0 : Nat → Int → ByteArray → List (S31) → Option (Bool)
 | 0,_,_,_=>none
 | k + 1,x3,x574000,x574001=>if x3 < 4 then ((profile_Undercut.f k x574000 x574001 x3).bind fun bt576=>(if bt576.2 = 9 then (gangsawlaw39_ProfileSides.l0 k (wrap64 (x3 + 1)) x574000 x574001) else (if bt576.2 = 0 then (if bt576.1 < 0 then (gangsawlaw39_ProfileSides.j1 k x3 bt576.1 true x574000 x574001) else (if bt576.1 ≥ (x574001.length : Int) then (gangsawlaw39_ProfileSides.j1 k x3 bt576.1 true x574000 x574001) else (gangsawlaw39_ProfileSides.j1 k x3 bt576.1 ((x574001.length : Int) == 3) x574000 x574001))) else (some (bt576.1 == 0))))) else (some true)
def gangsawlaw39_ProfileSides.j1 : Nat → Int → Int → Bool → ByteArray → List (S31) → Option (Bool)
 | 0,_,_,_,_,_=>none
 | k + 1,x3,x4,x44,x574000,x574001=>if x44 = true then (none) else (if 0 ≤ x4 then (if x4 < (x574001.length : Int) then (if (x574001.length : Int) = 0 then (none) else (if 0 ≤ (Int.tmod (wrap64 (x4 + 1)) (x574001.length : Int)) then (if (Int.tmod (wrap64 (x4 + 1)) (x574001.length : Int)) < (x574001.length : Int) then ((some (([decide (((rd_T31 x574001 (Int.tmod (wrap64 (x4 + 1)) (x574001.length : Int))).f1) < ((rd_T31 x574001 x4).f1)),decide (((rd_T31 x574001 (Int.tmod (wrap64 (x4 + 1)) (x574001.length : Int))).f1) > ((rd_T31 x574001 x4).f1)),decide (((rd_T31 x574001 (Int.tmod (wrap64 (x4 + 1)) (x574001.length : Int))).f0) > ((rd_T31 x574001 x4).f0)),decide (((rd_T31 x574001 (Int.tmod (wrap64 (x4 + 1)) (x574001.length : Int))).f0) < ((rd_T31 x574001 x4).f0))] : List Bool) : List Bool)).bind fun y582=>(if 0 ≤ x3 then (if x3 < (y582.length : Int) then (if rdOf false y582 x3 = true then (gangsawlaw39_ProfileSides.l0 k (wrap64 (x3 + 1)) x574000 x574001) else (none)) else (none)) else (none))) else (none)) else (none))) else (none)) else (none))
end
def gangsawlaw39_ProfileSides.f (k : Nat) (a0_0 : ByteArray) (l0_1 : List (S31)) : Option (Bool):=(gangsawlaw39_awake.f k).bind fun t574=>(if t574 = true then ((gangsawref39_Short.f a0_0 l0_1).bind fun t575=>(if t575 = true then (gangsawlaw39_ProfileSides.l0 k 0 a0_0 l0_1) else (some true))) else (none))
def gangsawlaw39_ProfileSides.T14 : Bool × List (List Nat × List Nat):=(true,[([],[]),([0],[0]),([],[]),([1,2],[1,2]),([3],[3]),([],[]),([5],[5]),([],[]),([7],[7]),([],[]),([9],[9]),([10],[10]),([8,11],[8,11]),([6,12],[6,12]),([13],[13]),([],[]),([],[]),([15,4,0,1,2,3,4,15,16],[4,15]),([16,14,17,0,1,2,3,4,5,6,7,8,9,10,11,12,13,14,15,16,17],[14,16])])
def gangsawlaw39_ProfileSides.B14 : List Nat:=[0,1,0,7,15,0,32,0,128,0,512,1536,3968,8160,16352,0,0,98335,262143]
theorem gangsawlaw39_ProfileSides.tab14 : rtab .any (opsOf Try.f8 14) = gangsawlaw39_ProfileSides.T14:=by kernel_rfl
theorem gangsawlaw39_ProfileSides.bits14 : waitsOk gangsawlaw39_ProfileSides.T14.2 gangsawlaw39_ProfileSides.B14 = true:=by kernel_rfl
set_option maxHeartbeats 8000000 in
set_option maxRecDepth 100000 in
theorem gangsawlaw39_ProfileSides.calls (k : Nat) (a0_0 : ByteArray) (A0_1 : Option Addr) (c0_1 : Nat) (l0_1 : List (S31)) (r : Bool) (w : World) (hr0_1 : Kd.C k31 w A0_1 l0_1.length l0_1) (hc0_1 : l0_1.length ≤ c0_1) (h : gangsawlaw39_ProfileSides.f k a0_0 l0_1 = some r) :
  Calls Try.prog 8 #[.agg #[.string a0_0,.slice A0_1 l0_1.length c0_1]] w fun e w'=>e = .returned (.bool r) ∧ Below w.heap.size w w':=by
 have hu25:=Try.underlying25
 have hu31:=Try.underlying31
 have HR0_1:=am hr0_1
 have HC0_1:=am hc0_1
 clear hr0_1 hc0_1
 have HB:=am (Below.refl w.heap.size w)
 have H : ((gangsawlaw39_awake.f k).bind fun t574=>(if t574 = true then ((gangsawref39_Short.f a0_0 l0_1).bind fun t575=>(if t575 = true then (gangsawlaw39_ProfileSides.l0 k 0 a0_0 l0_1) else (some true))) else (none))) = some r:=h
 clear h
 replace H:=Option.bind_eq_some_iff.mp H
 obtain ⟨t574,A20,H⟩ := H
 replace H : (if t574 = true then ((gangsawref39_Short.f a0_0 l0_1).bind fun t575=>(if t575 = true then (gangsawlaw39_ProfileSides.l0 k 0 a0_0 l0_1) else (some true))) else (none)) = some r:=H
 have A2:=am A20
 clear A20
 by_cases c3 : t574 = true
 ·subst c3
  have H1 : ((gangsawref39_Short.f a0_0 l0_1).bind fun t575=>(if t575 = true then (gangsawlaw39_ProfileSides.l0 k 0 a0_0 l0_1) else (some true))) = some r:=by rw [if_pos rfl] at H;exact H
  clear H
  have H:=H1
  clear H1
  replace H:=Option.bind_eq_some_iff.mp H
  obtain ⟨t575,A40,H⟩ := H
  replace H : (if t575 = true then (gangsawlaw39_ProfileSides.l0 k 0 a0_0 l0_1) else (some true)) = some r:=H
  have A4:=am A40
  clear A40
  by_cases c5 : t575 = true
  ·subst c5
   have H1 : (gangsawlaw39_ProfileSides.l0 k 0 a0_0 l0_1) = some r:=by rw [if_pos rfl] at H;exact H
   clear H
   have H:=H1
   clear H1
   have H':=am H
   clear H
   go_enter Try.func8,Try.ntmps8
   go_wp2_with (first|((with_reducible refine gate_dst (N:=1) rfl ?_);(try (refine gate_guard (by rfl) ?_;dsimp only));refine box_event ?hg (N:=1) ?hd (cs:=#[.string a0_0,.slice A0_1 l0_1.length c0_1]) (t:=25) ?hr ?_;(case hd=>rfl);(case hg=>rfl);(case hr=>first|(go_simp;done)|(go_simp;rfl));intro gb573 hg w6 hbox hb;have n0_:=am (below_step (by repeat (first|(with_reducible first|exact HB.out|apply lA|apply lN|apply lD)|exact HB.out)) hb);have n1_:=am (hbox);have n2_:=am ((by rw [hg];exact (below_size (by repeat (first|(with_reducible first|exact HB.out|apply lA|apply lN|apply lD)|exact HB.out))) : w.heap.size ≤ gb573));have n3_:=am ((by rw [hg];exact (below_size (by repeat (first|(with_reducible first|exact HB.out|apply lA|apply lN|apply lD)|exact HB.out))) : w.heap.size ≤ gb573));clear HB;have HB:=n0_;have BK573:=n1_;have GW573:=n2_;have GE573:=n3_;clear n0_ n1_ n2_ n3_;clear hb hbox hg)|((with_reducible refine gate_callee (f:=11) rfl ?_);refine goesL_ (some 9) rfl rfl Try.func11 (by kernel_rfl) rfl #[] rfl (by (try simp only [mT,mC,mN]);first|done|rfl|(simp only [lDr,lTk];rfl)) ?_;(with_reducible refine (gangsawlaw39_awake.calls k  true _ A2.out).mono ?_);rintro e w7 ⟨rfl,hb⟩;refine ⟨_,rfl, ?_⟩;have n0_:=am (blk_below (g:=gb573) (o:=.cells #[.string a0_0,.slice A0_1 l0_1.length c0_1] 25 (0,0)) (by (with_reducible repeat (first|apply bN|apply bD|apply bA));exact BK573.out) hb);have n1_:=am (below_step (by repeat (first|(with_reducible first|exact HB.out|apply lA|apply lN|apply lD|refine lS ?_ GE573.out)|exact HB.out)) hb);clear BK573;clear HB;have BK573:=n0_;have HB:=n1_;clear n0_ n1_;(try clear hb);(try clear hb2);(try clear hk);(try clear hi);have hcz8_0 : w7.cell? ⟨gb573,0,none⟩ = some (.string a0_0):=(blk_cell BK573.out 0).trans rfl;have hcz8_1 : w7.cell? ⟨gb573,1,none⟩ = some (.slice A0_1 l0_1.length c0_1):=(blk_cell BK573.out 1).trans rfl;have hfz8_0:=blk_frozen BK573.out 0;have hfz8_1:=blk_frozen BK573.out 1)|((with_reducible refine gate_callee (f:=12) rfl ?_);refine goesL_ (some 12) rfl rfl Try.func12 (by kernel_rfl) rfl #[.agg #[.string a0_0,.slice A0_1 l0_1.length c0_1]] rfl (by (try simp only [mT,mC,mN]);first|done|rfl|(simp only [lDr,lTk];rfl)) ?_;(with_reducible refine (gangsawref39_Short.calls a0_0 _ _ l0_1 true _ ?side1 ?side2 A4.out).mono ?_);(case side1=>repeat (first|exact (kB HR0_1.out HB.out)|(with_reducible first|apply kA|apply kN|apply kD)));(case side2=>exact HC0_1.out);rintro e w9 ⟨rfl,hb⟩;refine ⟨_,rfl, ?_⟩;have n0_:=am (blk_below (g:=gb573) (o:=.cells #[.string a0_0,.slice A0_1 l0_1.length c0_1] 25 (0,0)) (by (with_reducible repeat (first|apply bN|apply bD|apply bA));exact BK573.out) hb);have n1_:=am (below_step (by repeat (first|(with_reducible first|exact HB.out|apply lA|apply lN|apply lD|refine lS ?_ GE573.out)|exact HB.out)) hb);clear BK573;clear HB;have BK573:=n0_;have HB:=n1_;clear n0_ n1_;(try clear hb);(try clear hb2);(try clear hk);(try clear hi)))
   go_loopg [3] k (fun kq v3 w'=>∃ (x3_1 : Int),v3 = .int .i64 x3_1 ∧ Aside0 (gangsawlaw39_ProfileSides.l0 kq x3_1 a0_0 l0_1 = some r) ∧ Aside0 (kq ≤ k) ∧ Aside0 (w'.heap[gb573]? = some (.cells #[.string a0_0,(.slice A0_1 l0_1.length c0_1)] 25 (0,0))) ∧ Aside0 (Below w.heap.size w w'))
   case atStart=>exact ⟨(0),(by first|rfl|(simp;done)|(simp [*];done)),H',⟨Nat.le_refl _⟩,⟨by (with_reducible repeat (first|apply bN|apply bD|apply bA));exact BK573.out⟩,⟨by repeat (first|(with_reducible first|exact HB.out|apply lA|apply lN|apply lD|refine lS ?_ GE573.out)|exact HB.out)⟩⟩
   case round =>
    clear H'
    try clear c1
    try clear p2
    try clear c3
    try clear c5
    try clear c8
    try clear hcz8_0
    try clear hcz8_1
    try clear hfz8_0
    try clear hfz8_1
    obtain ⟨x3_1,rfl,HA,HK1,BK573,HB⟩ := hrel
    cases gk with
    | zero=>exact absurd HA.out (by simp [gangsawlaw39_ProfileSides.l0])
    | succ k1 =>
     have H:=HA.out
     clear HA
     simp only [gangsawlaw39_ProfileSides.l0] at H
     by_cases c10 : x3_1 < 4
     ·rw [if_pos c10] at H
      have c10b0 : decide (x3_1 < 4) = true:=decide_eq_true c10
      clear c10
      replace H:=Option.bind_eq_some_iff.mp H
      obtain ⟨⟨t576,t577⟩,A110,H⟩ := H
      replace H : (if t577 = 9 then (gangsawlaw39_ProfileSides.l0 k1 (wrap64 (x3_1 + 1)) a0_0 l0_1) else (if t577 = 0 then (if t576 < 0 then (gangsawlaw39_ProfileSides.j1 k1 x3_1 t576 true a0_0 l0_1) else (if t576 ≥ (l0_1.length : Int) then (gangsawlaw39_ProfileSides.j1 k1 x3_1 t576 true a0_0 l0_1) else (gangsawlaw39_ProfileSides.j1 k1 x3_1 t576 ((l0_1.length : Int) == 3) a0_0 l0_1))) else (some (t576 == 0)))) = some r:=H
      have A11:=am A110
      clear A110
      by_cases c12 : t577 = 9
      ·rw [if_pos c12] at H
       have c12b0 : (t577 == 9) = true:=beq_iff_eq.mpr c12
       have c12b1 : (t577 != 9) = false:=bne_eq_false_iff_eq.mpr c12
       clear c12
       have H':=am H
       clear H
       have hcz13_0 : wr.cell? ⟨gb573,0,none⟩ = some (.string a0_0):=(blk_cell BK573.out 0).trans rfl
       have hcz13_1 : wr.cell? ⟨gb573,1,none⟩ = some (.slice A0_1 l0_1.length c0_1):=(blk_cell BK573.out 1).trans rfl
       have hfz13_0:=blk_frozen BK573.out 0
       have hfz13_1:=blk_frozen BK573.out 1
       go_wp2_with (first|((with_reducible refine gate_callee (f:=27) rfl ?_);refine goesL_ (some 21) rfl rfl Try.func27 (by kernel_rfl) rfl #[.agg #[.string a0_0,.slice A0_1 l0_1.length c0_1],.int .i64 x3_1] rfl (by (try simp only [mT,mC,mN]);first|done|rfl|(simp only [lDr,lTk];rfl)) ?_;(with_reducible refine (profile_Undercut.calls k1 a0_0 _ _ l0_1 x3_1 t576 t577 _ ?side1 ?side2 A11.out).mono ?_);(case side1=>repeat (first|exact (kB HR0_1.out HB.out)|(with_reducible first|apply kA|apply kN|apply kD)));(case side2=>exact HC0_1.out);rintro e w14 ⟨rfl,hb⟩;refine ⟨_,rfl, ?_⟩;have n0_:=am (blk_below (g:=gb573) (o:=.cells #[.string a0_0,.slice A0_1 l0_1.length c0_1] 25 (0,0)) (by (with_reducible repeat (first|apply bN|apply bD|apply bA));exact BK573.out) hb);have n1_:=am (below_step (by repeat (first|(with_reducible first|exact HB.out|apply lA|apply lN|apply lD|refine lS ?_ GE573.out)|exact HB.out)) hb);clear BK573;clear HB;have BK573:=n0_;have HB:=n1_;clear n0_ n1_;(try clear hb);(try clear hb2);(try clear hk);(try clear hi)))
       go_roundg k1
       case measure=>have:=HK1.out;omega
       case rel=>exact ⟨(wrap64 (x3_1 + 1)),(by first|rfl|(simp;done)|(simp [*];done)),H',⟨by have:=HK1.out;omega⟩,⟨by (with_reducible repeat (first|apply bN|apply bD|apply bA));exact BK573.out⟩,⟨by repeat (first|(with_reducible first|exact HB.out|apply lA|apply lN|apply lD|refine lS ?_ GE573.out)|exact HB.out)⟩⟩
      ·rw [if_neg c12] at H
       have c12b0 : (t577 == 9) = false:=beq_eq_false_iff_ne.mpr c12
       have c12b1 : (t577 != 9) = true:=bne_iff_ne.mpr c12
       by_cases c15 : t577 = 0
       ·rw [if_pos c15] at H
        have c15b0 : (t577 == 0) = true:=beq_iff_eq.mpr c15
        have c15b1 : (t577 != 0) = false:=bne_eq_false_iff_eq.mpr c15
        clear c15
        have HC16:=am H
        clear H
        have hcz17_0 : wr.cell? ⟨gb573,0,none⟩ = some (.string a0_0):=(blk_cell BK573.out 0).trans rfl
        have hcz17_1 : wr.cell? ⟨gb573,1,none⟩ = some (.slice A0_1 l0_1.length c0_1):=(blk_cell BK573.out 1).trans rfl
        have hfz17_0:=blk_frozen BK573.out 0
        have hfz17_1:=blk_frozen BK573.out 1
        go_upto_region 12 with (first|((with_reducible refine gate_callee (f:=27) rfl ?_);refine goesL_ (some 21) rfl rfl Try.func27 (by kernel_rfl) rfl #[.agg #[.string a0_0,.slice A0_1 l0_1.length c0_1],.int .i64 x3_1] rfl (by (try simp only [mT,mC,mN]);first|done|rfl|(simp only [lDr,lTk];rfl)) ?_;(with_reducible refine (profile_Undercut.calls k1 a0_0 _ _ l0_1 x3_1 t576 t577 _ ?side1 ?side2 A11.out).mono ?_);(case side1=>repeat (first|exact (kB HR0_1.out HB.out)|(with_reducible first|apply kA|apply kN|apply kD)));(case side2=>exact HC0_1.out);rintro e w18 ⟨rfl,hb⟩;refine ⟨_,rfl, ?_⟩;have n0_:=am (blk_below (g:=gb573) (o:=.cells #[.string a0_0,.slice A0_1 l0_1.length c0_1] 25 (0,0)) (by (with_reducible repeat (first|apply bN|apply bD|apply bA));exact BK573.out) hb);have n1_:=am (below_step (by repeat (first|(with_reducible first|exact HB.out|apply lA|apply lN|apply lD|refine lS ?_ GE573.out)|exact HB.out)) hb);clear BK573;clear HB;have BK573:=n0_;have HB:=n1_;clear n0_ n1_;(try clear hb);(try clear hb2);(try clear hk);(try clear hi)))
        (try simp only [Act.put,sA,s0,sS])
        go_cut [44] (fun v44 wc=>∃ (kq : Nat) (x44_15 : Bool),v44 = .bool x44_15 ∧ Aside0 (gangsawlaw39_ProfileSides.j1 kq x3_1 t576 x44_15 a0_0 l0_1 = some r) ∧ Aside0 (kq ≤ k1) ∧ Aside0 (wc.heap[gb573]? = some (.cells #[.string a0_0,(.slice A0_1 l0_1.length c0_1)] 25 (0,0))) ∧ Aside0 (Below w.heap.size w wc))
        case first =>
         have H:=HC16.out
         clear HC16
         by_cases c19 : t576 < 0
         ·rw [if_pos c19] at H
          have c19b0 : decide (t576 < 0) = true:=decide_eq_true c19
          clear c19
          (first|rw [c19b0]|(simp only [i64_w,i32_w];rw [c19b0])|skip)
          have H':=am H
          clear H
          go_wp2
          go_meet
          case rel=>exact ⟨_,(true),(by first|rfl|(simp;done)|(simp [*];done)),H',⟨by have:=HK1.out;first|omega|exact Nat.le_refl _⟩,⟨by (with_reducible repeat (first|apply bN|apply bD|apply bA));exact BK573.out⟩,⟨by repeat (first|(with_reducible first|exact HB.out|apply lA|apply lN|apply lD|refine lS ?_ GE573.out)|exact HB.out)⟩⟩
         ·rw [if_neg c19] at H
          have c19b0 : decide (t576 < 0) = false:=decide_eq_false c19
          clear c19
          (first|rw [c19b0]|(simp only [i64_w,i32_w];rw [c19b0])|skip)
          by_cases c20 : t576 ≥ (l0_1.length : Int)
          ·rw [if_pos c20] at H
           have c20b0 : decide ((l0_1.length : Int) ≤ t576) = true:=decide_eq_true c20
           clear c20
           have H':=am H
           clear H
           have hcz21_0 : w18.cell? ⟨gb573,0,none⟩ = some (.string a0_0):=(blk_cell BK573.out 0).trans rfl
           have hcz21_1 : w18.cell? ⟨gb573,1,none⟩ = some (.slice A0_1 l0_1.length c0_1):=(blk_cell BK573.out 1).trans rfl
           have hfz21_0:=blk_frozen BK573.out 0
           have hfz21_1:=blk_frozen BK573.out 1
           go_wp2
           go_meet
           case rel=>exact ⟨_,(true),(by first|rfl|(simp;done)|(simp [*];done)),H',⟨by have:=HK1.out;first|omega|exact Nat.le_refl _⟩,⟨by (with_reducible repeat (first|apply bN|apply bD|apply bA));exact BK573.out⟩,⟨by repeat (first|(with_reducible first|exact HB.out|apply lA|apply lN|apply lD|refine lS ?_ GE573.out)|exact HB.out)⟩⟩
          ·rw [if_neg c20] at H
           have c20b0 : decide ((l0_1.length : Int) ≤ t576) = false:=decide_eq_false c20
           clear c20
           have H':=am H
           clear H
           have hcz22_0 : w18.cell? ⟨gb573,0,none⟩ = some (.string a0_0):=(blk_cell BK573.out 0).trans rfl
           have hcz22_1 : w18.cell? ⟨gb573,1,none⟩ = some (.slice A0_1 l0_1.length c0_1):=(blk_cell BK573.out 1).trans rfl
           have hfz22_0:=blk_frozen BK573.out 0
           have hfz22_1:=blk_frozen BK573.out 1
           go_wp2
           go_meet
           case rel=>exact ⟨_,(((l0_1.length : Int) == 3)),(by first|rfl|(simp;done)|(simp [*];done)),H',⟨by have:=HK1.out;first|omega|exact Nat.le_refl _⟩,⟨by (with_reducible repeat (first|apply bN|apply bD|apply bA));exact BK573.out⟩,⟨by repeat (first|(with_reducible first|exact HB.out|apply lA|apply lN|apply lD|refine lS ?_ GE573.out)|exact HB.out)⟩⟩
        case rest =>
         clear HC16
         try clear c1
         try clear c2
         try clear p2
         try clear c3
         try clear c5
         try clear p6
         try clear c8
         try clear c10
         try clear c10b0
         try clear c11
         try clear c12
         try clear c12b0
         try clear c12b1
         try clear c15
         try clear c15b0
         try clear c15b1
         try clear c19
         try clear c19b0
         try clear c20
         try clear c20b0
         try clear hcz13_0
         try clear hcz13_1
         try clear hcz17_0
         try clear hcz17_1
         try clear hcz21_0
         try clear hcz21_1
         try clear hcz22_0
         try clear hcz22_1
         try clear hcz8_0
         try clear hcz8_1
         try clear hfz13_0
         try clear hfz13_1
         try clear hfz17_0
         try clear hfz17_1
         try clear hfz21_0
         try clear hfz21_1
         try clear hfz22_0
         try clear hfz22_1
         try clear hfz8_0
         try clear hfz8_1
         try clear p2
         obtain ⟨kq,x44_15,rfl,HA,HJ15,BK573,HB⟩ := hcut
         cases kq with
         | zero=>exact absurd HA.out (by simp [gangsawlaw39_ProfileSides.j1])
         | succ kj15 =>
          have H:=HA.out
          clear HA
          simp only [gangsawlaw39_ProfileSides.j1] at H
          by_cases c23 : x44_15 = true
          ·subst c23
           have H1 : (none) = some r:=by rw [if_pos rfl] at H;exact H
           clear H
           have H:=H1
           clear H1
           exact absurd H (by simp)
          ·replace c23:=Bool.eq_false_iff.mpr c23
           subst c23
           have H1 : (if 0 ≤ t576 then (if t576 < (l0_1.length : Int) then (if (l0_1.length : Int) = 0 then (none) else (if 0 ≤ (Int.tmod (wrap64 (t576 + 1)) (l0_1.length : Int)) then (if (Int.tmod (wrap64 (t576 + 1)) (l0_1.length : Int)) < (l0_1.length : Int) then ((some (([decide (((rd_T31 l0_1 (Int.tmod (wrap64 (t576 + 1)) (l0_1.length : Int))).f1) < ((rd_T31 l0_1 t576).f1)),decide (((rd_T31 l0_1 (Int.tmod (wrap64 (t576 + 1)) (l0_1.length : Int))).f1) > ((rd_T31 l0_1 t576).f1)),decide (((rd_T31 l0_1 (Int.tmod (wrap64 (t576 + 1)) (l0_1.length : Int))).f0) > ((rd_T31 l0_1 t576).f0)),decide (((rd_T31 l0_1 (Int.tmod (wrap64 (t576 + 1)) (l0_1.length : Int))).f0) < ((rd_T31 l0_1 t576).f0))] : List Bool) : List Bool)).bind fun y582=>(if 0 ≤ x3_1 then (if x3_1 < (y582.length : Int) then (if rdOf false y582 x3_1 = true then (gangsawlaw39_ProfileSides.l0 kj15 (wrap64 (x3_1 + 1)) a0_0 l0_1) else (none)) else (none)) else (none))) else (none)) else (none))) else (none)) else (none)) = some r:=by rw [if_neg (show ¬ (false = true) by decide)] at H;exact H
           clear H
           have H:=H1
           clear H1
           by_cases c24 : 0 ≤ t576
           ·rw [if_pos c24] at H
            have c24b0 : decide (0 ≤ t576) = true:=decide_eq_true c24
            clear c24
            by_cases c25 : t576 < (l0_1.length : Int)
            ·rw [if_pos c25] at H
             have c25b0 : decide (t576 < (l0_1.length : Int)) = true:=decide_eq_true c25
             clear c25
             by_cases c26 : (l0_1.length : Int) = 0
             ·rw [if_pos c26] at H
              exact absurd H (by simp)
             ·rw [if_neg c26] at H
              have c26b0 : ((l0_1.length : Int) == 0) = false:=beq_eq_false_iff_ne.mpr c26
              have c26b1 : ((l0_1.length : Int) != 0) = true:=bne_iff_ne.mpr c26
              have c26b2 : ¬ (l0_1 = []):=fun h_=>c26 (by rw [h_];rfl)
              obtain ⟨ji27,hji27⟩ : ∃ j_ : Int,(Int.tmod (wrap64 (t576 + 1)) (l0_1.length : Int)) = j_:=⟨_,rfl⟩
              replace H : (if 0 ≤ (ji27) then (if (ji27) < (l0_1.length : Int) then ((some (([decide (((rd_T31 l0_1 (ji27)).f1) < ((rd_T31 l0_1 t576).f1)),decide (((rd_T31 l0_1 (ji27)).f1) > ((rd_T31 l0_1 t576).f1)),decide (((rd_T31 l0_1 (ji27)).f0) > ((rd_T31 l0_1 t576).f0)),decide (((rd_T31 l0_1 (ji27)).f0) < ((rd_T31 l0_1 t576).f0))] : List Bool) : List Bool)).bind fun y582=>(if 0 ≤ x3_1 then (if x3_1 < (y582.length : Int) then (if rdOf false y582 x3_1 = true then (gangsawlaw39_ProfileSides.l0 kj15 (wrap64 (x3_1 + 1)) a0_0 l0_1) else (none)) else (none)) else (none))) else (none)) else (none)) = some r:=by first|(rw [hji27] at H;exact H)|(simp only [hji27] at H ⊢;exact H)
              by_cases c28 : 0 ≤ (ji27)
              ·rw [if_pos c28] at H
               have c28b0 : decide (0 ≤ (ji27)) = true:=decide_eq_true c28
               clear c28
               by_cases c29 : (ji27) < (l0_1.length : Int)
               ·rw [if_pos c29] at H
                have c29b0 : decide ((ji27) < (l0_1.length : Int)) = true:=decide_eq_true c29
                clear c29
                obtain ⟨y582,hy582⟩ : ∃ y_ : List Bool,y_ = (([decide (((rd_T31 l0_1 (ji27)).f1) < ((rd_T31 l0_1 t576).f1)),decide (((rd_T31 l0_1 (ji27)).f1) > ((rd_T31 l0_1 t576).f1)),decide (((rd_T31 l0_1 (ji27)).f0) > ((rd_T31 l0_1 t576).f0)),decide (((rd_T31 l0_1 (ji27)).f0) < ((rd_T31 l0_1 t576).f0))] : List Bool)):=⟨_,rfl⟩
                replace H : (if 0 ≤ x3_1 then (if x3_1 < (y582.length : Int) then (if rdOf false y582 x3_1 = true then (gangsawlaw39_ProfileSides.l0 kj15 (wrap64 (x3_1 + 1)) a0_0 l0_1) else (none)) else (none)) else (none)) = some r:=by first|(rw [hy582];with_reducible exact H)|(have H2_:=(Option.bind_some _ _).symm.trans H;rw [hy582];with_reducible exact H2_)|(have H2_:=(Option.bind_some _ _).symm.trans H;with_reducible exact H2_)|with_reducible exact H|(rw [hy582];exact H)|exact H
                have Ny582:=am hy582
                clear hy582
                by_cases c30 : 0 ≤ x3_1
                ·rw [if_pos c30] at H
                 have c30b0 : decide (0 ≤ x3_1) = true:=decide_eq_true c30
                 clear c30
                 by_cases c31 : x3_1 < (y582.length : Int)
                 ·rw [if_pos c31] at H
                  have c31b0 : decide (x3_1 < (y582.length : Int)) = true:=decide_eq_true c31
                  clear c31
                  obtain ⟨bq32,hbq32⟩ : ∃ b_ : Bool,b_ = (rdOf false y582 x3_1):=⟨_,rfl⟩
                  replace H : (if bq32 = true then (gangsawlaw39_ProfileSides.l0 kj15 (wrap64 (x3_1 + 1)) a0_0 l0_1) else (none)) = some r:=by rw [← hbq32] at H;exact H
                  have Nbq32:=am hbq32
                  clear hbq32
                  by_cases c33 : bq32 = true
                  ·subst c33
                   have H1 : (gangsawlaw39_ProfileSides.l0 kj15 (wrap64 (x3_1 + 1)) a0_0 l0_1) = some r:=by rw [if_pos rfl] at H;exact H
                   clear H
                   have H:=H1
                   clear H1
                   have H':=am H
                   clear H
                   try go_wp2
                   have n0_:=am (blk_drew BK573.out)
                   have n1_:=am (below_drew1 HB.out)
                   clear BK573
                   clear HB
                   have BK573:=n0_
                   have HB:=n1_
                   clear n0_ n1_
                   have p578 : 0 ≤ (t576 : Int):=of_decide_eq_true (by first|(with_reducible assumption)|assumption)
                   have q578 : t576 < (l0_1.length : Int):=of_decide_eq_true (by first|(with_reducible assumption)|assumption)
                   obtain ⟨ad578,e578,hx578_0,hx578_1⟩ := at_T31 HR0_1.out t576 p578 q578
                   have hw578_1:=hx578_1
                   have hw578_0:=hx578_0
                   cases e578
                   replace hx578_0:=(HB.out.cell (World.block_lt_of_cell? w _ hx578_0)).trans hx578_0
                   replace hx578_1:=(HB.out.cell (World.block_lt_of_cell? w _ hx578_1)).trans hx578_1
                   replace p578:=eq_true p578
                   replace q578:=eq_true q578
                   have p579 : 0 ≤ ((ji27) : Int):=of_decide_eq_true (by first|(with_reducible assumption)|assumption)
                   have q579 : (ji27) < (l0_1.length : Int):=of_decide_eq_true (by first|(with_reducible assumption)|assumption)
                   obtain ⟨ad579,e579,hx579_0,hx579_1⟩ := at_T31 HR0_1.out (ji27) p579 q579
                   have hw579_1:=hx579_1
                   have hw579_0:=hx579_0
                   obtain rfl : ad578 = ad579:=(by injection e579)
                   replace hx579_0:=(HB.out.cell (World.block_lt_of_cell? w _ hx579_0)).trans hx579_0
                   replace hx579_1:=(HB.out.cell (World.block_lt_of_cell? w _ hx579_1)).trans hx579_1
                   replace p579:=eq_true p579
                   replace q579:=eq_true q579
                   refine start_ (n:=19) (S:=fun w'=>w'.cell? ⟨gb573,0,none⟩ = some (.string a0_0) ∧ w'.cell? ⟨gb573,1,none⟩ = some (.slice (some ad578) l0_1.length c0_1) ∧ w'.cell? (ad578.add ((t576).toNat * 2)) = some (.int .i64 ((rd_T31 l0_1 t576).f0)) ∧ w'.cell? ⟨(ad578.add ((t576).toNat * 2)).block,(ad578.add ((t576).toNat * 2)).off + 1,none⟩ = some (.int .i64 ((rd_T31 l0_1 t576).f1)) ∧ w'.cell? (ad578.add (((ji27)).toNat * 2)) = some (.int .i64 ((rd_T31 l0_1 (ji27)).f0)) ∧ w'.cell? ⟨(ad578.add (((ji27)).toNat * 2)).block,(ad578.add (((ji27)).toNat * 2)).off + 1,none⟩ = some (.int .i64 ((rd_T31 l0_1 (ji27)).f1))) (ds:=[]) #[f_,f_,f_,f_,f_,f_,f_,f_,f_,f_,f_,f_,f_,f_,f_,f_,f_,f_,f_] (by kernel_rfl) rfl rfl ⟨(blk_cell BK573.out 0).trans rfl,(blk_cell BK573.out 1).trans rfl,((HB.out.cell (World.block_lt_of_cell? w _ hw578_0)).trans hw578_0),((HB.out.cell (World.block_lt_of_cell? w _ hw578_1)).trans hw578_1),((HB.out.cell (World.block_lt_of_cell? w _ hw579_0)).trans hw579_0),((HB.out.cell (World.block_lt_of_cell? w _ hw579_1)).trans hw579_1)⟩ (fun hHeld=>?_);refine with_tabW gangsawlaw39_ProfileSides.tab14 gangsawlaw39_ProfileSides.bits14 (fun HT_ HW_=>?_)
                   generalize wc.drew = w34 at BK573 HB hx578_0 hx578_1 hx579_0 hx579_1 hHeld ⊢
                   refine pure_ (i:=0) (N:=some 45) (v:=?_) (a':=?_) #[t_,f_,f_,f_,f_,f_,f_,f_,f_,f_,f_,f_,f_,f_,f_,f_,f_,f_,f_] rfl rfl (any_of HT_.out (by kernel_rfl)) (fun _ _ _ h=>h) (Or.inl ⟨by rfl, ?_⟩) ?_ ?_
                   rotate_left
                   ·intro w'
                    go_simp
                    with_reducible rfl
                   rotate_left
                   ·simp only [Act.put,sA,s0,sS,i64_w,i32_w]
                    rfl
                   refine pure_ (i:=2) (N:=some 47) (v:=?_) (a':=?_) #[t_,f_,t_,f_,f_,f_,f_,f_,f_,f_,f_,f_,f_,f_,f_,f_,f_,f_,f_] rfl rfl (any_of HT_.out (by kernel_rfl)) (fun _ _ _ h=>h) (Or.inl ⟨by rfl, ?_⟩) ?_ ?_
                   rotate_left
                   ·intro w'
                    go_simp
                    with_reducible rfl
                   rotate_left
                   ·simp only [Act.put,sA,s0,sS,i64_w,i32_w]
                    rfl
                   refine pure_ (i:=5) (N:=some 50) (v:=?_) (a':=?_) #[t_,f_,t_,f_,f_,t_,f_,f_,f_,f_,f_,f_,f_,f_,f_,f_,f_,f_,f_] rfl rfl (any_of HT_.out (by kernel_rfl)) (fun _ _ _ h=>h) (Or.inl ⟨by rfl, ?_⟩) ?_ ?_
                   rotate_left
                   ·intro w'
                    go_simp
                    with_reducible rfl
                   rotate_left
                   ·simp only [Act.put,sA,s0,sS,i64_w,i32_w]
                    rfl
                   refine pure_ (i:=7) (N:=some 52) (v:=?_) (a':=?_) #[t_,f_,t_,f_,f_,t_,f_,t_,f_,f_,f_,f_,f_,f_,f_,f_,f_,f_,f_] rfl rfl (any_of HT_.out (by kernel_rfl)) (fun _ _ _ h=>h) (Or.inl ⟨by rfl, ?_⟩) ?_ ?_
                   rotate_left
                   ·intro w'
                    go_simp
                    with_reducible rfl
                   rotate_left
                   ·simp only [Act.put,sA,s0,sS,i64_w,i32_w]
                    rfl
                   refine pure_ (i:=8) (N:=some 53) (v:=?_) (a':=?_) #[t_,f_,t_,f_,f_,t_,f_,t_,t_,f_,f_,f_,f_,f_,f_,f_,f_,f_,f_] rfl rfl (any_of HT_.out (by kernel_rfl)) (fun _ _ _ h=>h) (Or.inl ⟨by rfl, ?_⟩) ?_ ?_
                   rotate_left
                   ·intro w'
                    go_simp
                    with_reducible rfl
                   rotate_left
                   ·simp only [Act.put,sA,s0,sS,i64_w,i32_w]
                    rfl
                   refine pure_ (i:=9) (N:=some 54) (v:=?_) (a':=?_) #[t_,f_,t_,f_,f_,t_,f_,t_,t_,t_,f_,f_,f_,f_,f_,f_,f_,f_,f_] rfl rfl (any_of HT_.out (by kernel_rfl)) (fun _ _ _ h=>h) (Or.inl ⟨by rfl, ?_⟩) ?_ ?_
                   rotate_left
                   ·intro w'
                    go_simp
                    with_reducible rfl
                   rotate_left
                   ·simp only [Act.put,sA,s0,sS,i64_w,i32_w]
                    rfl
                   refine take_ (i:=1) (N:=some 46) (v:=?_) (a':=?_) #[t_,t_,t_,f_,f_,t_,f_,t_,t_,t_,f_,f_,f_,f_,f_,f_,f_,f_,f_] rfl rfl (take_ofW HT_.out HW_.out (by kernel_rfl)) (fun _ _ _ h=>h) (Or.inl ⟨by rfl, ?_⟩) hHeld ?_ ?_
                   rotate_left
                   ·rintro w' ⟨s0,s1,s2,s3,s4,s5⟩
                    go_simp
                    with_reducible rfl
                   rotate_left
                   ·simp only [Act.put,sA,s0,sS,i64_w,i32_w]
                    rfl
                   refine pure_ (i:=3) (N:=some 48) (v:=?_) (a':=?_) #[t_,t_,t_,t_,f_,t_,f_,t_,t_,t_,f_,f_,f_,f_,f_,f_,f_,f_,f_] rfl rfl (any_of HT_.out (by kernel_rfl)) (fun _ _ _ h=>h) (Or.inl ⟨by rfl, ?_⟩) ?_ ?_
                   rotate_left
                   ·intro w'
                    go_simp
                    with_reducible rfl
                   rotate_left
                   ·simp only [Act.put,sA,s0,sS,i64_w,i32_w]
                    rfl
                   refine take_ (i:=4) (N:=some 49) (v:=?_) (a':=?_) #[t_,t_,t_,t_,t_,t_,f_,t_,t_,t_,f_,f_,f_,f_,f_,f_,f_,f_,f_] rfl rfl (take_ofW HT_.out HW_.out (by kernel_rfl)) (fun _ _ _ h=>h) (Or.inl ⟨by rfl, ?_⟩) hHeld ?_ ?_
                   rotate_left
                   ·rintro w' ⟨s0,s1,s2,s3,s4,s5⟩
                    go_simp
                    with_reducible rfl
                   rotate_left
                   ·simp only [Act.put,sA,s0,sS,i64_w,i32_w]
                    rfl
                   refine take_ (i:=6) (N:=some 51) (v:=?_) (a':=?_) #[t_,t_,t_,t_,t_,t_,t_,t_,t_,t_,f_,f_,f_,f_,f_,f_,f_,f_,f_] rfl rfl (take_ofW HT_.out HW_.out (by kernel_rfl)) (fun _ _ _ h=>h) (Or.inl ⟨by rfl, ?_⟩) hHeld ?_ ?_
                   rotate_left
                   ·rintro w' ⟨s0,s1,s2,s3,s4,s5⟩
                    go_simp
                    with_reducible rfl
                   rotate_left
                   ·simp only [Act.put,sA,s0,sS,i64_w,i32_w]
                    rfl
                   refine take_ (i:=10) (N:=some 55) (v:=?_) (a':=?_) #[t_,t_,t_,t_,t_,t_,t_,t_,t_,t_,t_,f_,f_,f_,f_,f_,f_,f_,f_] rfl rfl (take_ofW HT_.out HW_.out (by kernel_rfl)) (fun _ _ _ h=>h) (Or.inl ⟨by rfl, ?_⟩) hHeld ?_ ?_
                   rotate_left
                   ·rintro w' ⟨s0,s1,s2,s3,s4,s5⟩
                    go_simp
                    with_reducible rfl
                   rotate_left
                   ·simp only [Act.put,sA,s0,sS,i64_w,i32_w]
                    rfl
                   refine pure_ (i:=11) (N:=some 56) (v:=?_) (a':=?_) #[t_,t_,t_,t_,t_,t_,t_,t_,t_,t_,t_,t_,f_,f_,f_,f_,f_,f_,f_] rfl rfl (any_of HT_.out (by kernel_rfl)) (fun _ _ _ h=>h) (Or.inl ⟨by rfl, ?_⟩) ?_ ?_
                   rotate_left
                   ·intro w'
                    go_simp
                    with_reducible rfl
                   rotate_left
                   ·simp only [Act.put,sA,s0,sS,i64_w,i32_w]
                    rfl
                   refine pure_ (i:=12) (N:=some 57) (v:=?_) (a':=?_) #[t_,t_,t_,t_,t_,t_,t_,t_,t_,t_,t_,t_,t_,f_,f_,f_,f_,f_,f_] rfl rfl (any_of HT_.out (by kernel_rfl)) (fun _ _ _ h=>h) (Or.inl ⟨by rfl, ?_⟩) ?_ ?_
                   rotate_left
                   ·intro w'
                    go_simp
                    with_reducible rfl
                   rotate_left
                   ·simp only [Act.put,sA,s0,sS,i64_w,i32_w]
                    rfl
                   refine pure_ (i:=13) (N:=some 58) (v:=?_) (a':=?_) #[t_,t_,t_,t_,t_,t_,t_,t_,t_,t_,t_,t_,t_,t_,f_,f_,f_,f_,f_] rfl rfl (any_of HT_.out (by kernel_rfl)) (fun _ _ _ h=>h) (Or.inl ⟨by rfl, ?_⟩) ?_ ?_
                   rotate_left
                   ·intro w'
                    go_simp
                    with_reducible rfl
                   rotate_left
                   ·simp only [Act.put,sA,s0,sS,i64_w,i32_w]
                    rfl
                   refine take_ (i:=14) (N:=some 59) (v:=?_) (a':=?_) #[t_,t_,t_,t_,t_,t_,t_,t_,t_,t_,t_,t_,t_,t_,t_,f_,f_,f_,f_] rfl rfl (take_ofW HT_.out HW_.out (by kernel_rfl)) (fun _ _ _ h=>h) (Or.inl ⟨by rfl, ?_⟩) hHeld ?_ ?_
                   rotate_left
                   ·rintro w' ⟨s0,s1,s2,s3,s4,s5⟩
                    go_simp
                    with_reducible rfl
                   rotate_left
                   ·simp only [Act.put,sA,s0,sS,i64_w,i32_w]
                    rfl
                   refine join_ (σ:=Nat × Nat) 2 #[t_,t_,t_,t_,t_,t_,t_,t_,t_,t_,t_,t_,t_,t_,t_,t_,t_,f_,f_] (fun s_=>[(6,.pointer (some ⟨s_.1,0,none⟩)),(7,.pointer (some ⟨s_.2,0,none⟩))]) (fun s_ w'=>(w'.cell? ⟨gb573,0,none⟩ = some (.string a0_0) ∧ w'.cell? ⟨gb573,1,none⟩ = some (.slice (some ad578) l0_1.length c0_1) ∧ w'.cell? (ad578.add ((t576).toNat * 2)) = some (.int .i64 ((rd_T31 l0_1 t576).f0)) ∧ w'.cell? ⟨(ad578.add ((t576).toNat * 2)).block,(ad578.add ((t576).toNat * 2)).off + 1,none⟩ = some (.int .i64 ((rd_T31 l0_1 t576).f1)) ∧ w'.cell? (ad578.add (((ji27)).toNat * 2)) = some (.int .i64 ((rd_T31 l0_1 (ji27)).f0)) ∧ w'.cell? ⟨(ad578.add (((ji27)).toNat * 2)).block,(ad578.add (((ji27)).toNat * 2)).off + 1,none⟩ = some (.int .i64 ((rd_T31 l0_1 (ji27)).f1))) ∧ (w'.heap[gb573]? = some (.cells #[.string a0_0,.slice (some ad578) l0_1.length c0_1] 25 (0,0))) ∧ (w'.heap[s_.1]? = some (.cells #[.int .i64 0,.int .i64 0] 31 (0,0))) ∧ (w'.heap[s_.2]? = some (.cells #[.int .i64 0,.int .i64 0] 31 (0,0))) ∧ (w.heap.size ≤ s_.1) ∧ (w.heap.size ≤ s_.1) ∧ (gb573 ≠ s_.1) ∧ (s_.1 ≠ gb573) ∧ (s_.2 ≠ s_.1) ∧ (s_.1 ≠ s_.2) ∧ (w.heap.size ≤ s_.2) ∧ (w.heap.size ≤ s_.2) ∧ (gb573 ≠ s_.2) ∧ (s_.2 ≠ gb573) ∧ (Below w.heap.size w w')) ?_ ?_
                   rotate_left
                   ·intro hCont
                    refine two_ (i:=15) (j:=16) (Ni:=some 6) (Nj:=some 7) #[t_,t_,t_,t_,t_,t_,t_,t_,t_,t_,t_,t_,t_,t_,t_,t_,f_,f_,f_] #[t_,t_,t_,t_,t_,t_,t_,t_,t_,t_,t_,t_,t_,t_,t_,f_,t_,f_,f_] rfl rfl rfl rfl (two_of HT_.out (by kernel_rfl)) (by decide) (by decide) (fun K hK=>?_) (fun K hK=>?_)
                    ·skip
                     refine box_step ?hg (N:=6) ?hd (cs:=#[.int .i64 0,.int .i64 0]) (t:=31) ?hr ?_;(case hd=>rfl);(case hg=>rfl);(case hr=>first|(go_simp;done)|(go_simp;rfl))
                     intro gb580 hg w35 hbox hb
                     have n0_:=am (blk_below (g:=gb573) (o:=.cells #[.string a0_0,.slice (some ad578) l0_1.length c0_1] 25 (0,0)) (by (with_reducible repeat (first|apply bN|apply bD|apply bA));exact BK573.out) hb)
                     have n1_:=am (below_step (by repeat (first|(with_reducible first|exact HB.out|apply lA|apply lN|apply lD|refine lS ?_ GE573.out)|exact HB.out)) hb)
                     have n2_:=am (hbox)
                     have n3_:=am ((by rw [hg];exact (below_size (by repeat (first|(with_reducible first|exact HB.out|apply lA|apply lN|apply lD|refine lS ?_ GE573.out)|exact HB.out))) : w.heap.size ≤ gb580))
                     have n4_:=am ((by rw [hg];exact (below_size (by repeat (first|(with_reducible first|exact HB.out|apply lA|apply lN|apply lD|refine lS ?_ GE573.out)|exact HB.out))) : w.heap.size ≤ gb580))
                     have n5_:=am ((by rw [hg];exact Nat.ne_of_lt (blk_lt (g:=gb573) (o:=.cells #[.string a0_0,.slice (some ad578) l0_1.length c0_1] 25 (0,0)) (by (with_reducible repeat (first|apply bN|apply bD|apply bA));exact BK573.out)) : gb573 ≠ gb580))
                     have n6_:=am ((by rw [hg];exact Nat.ne_of_gt (blk_lt (g:=gb573) (o:=.cells #[.string a0_0,.slice (some ad578) l0_1.length c0_1] 25 (0,0)) (by (with_reducible repeat (first|apply bN|apply bD|apply bA));exact BK573.out)) : gb580 ≠ gb573))
                     clear BK573
                     clear HB
                     have BK573:=n0_
                     have HB:=n1_
                     have BK580:=n2_
                     have GW580:=n3_
                     have GE580:=n4_
                     have NB573_580:=n5_
                     have NB580_573:=n6_
                     clear n0_ n1_ n2_ n3_ n4_ n5_ n6_
                     clear hb hbox hg
                     refine hK.out _ _ ⟨(blk_cell BK573.out 0).trans rfl,(blk_cell BK573.out 1).trans rfl,((HB.out.cell (World.block_lt_of_cell? w _ hw578_0)).trans hw578_0),((HB.out.cell (World.block_lt_of_cell? w _ hw578_1)).trans hw578_1),((HB.out.cell (World.block_lt_of_cell? w _ hw579_0)).trans hw579_0),((HB.out.cell (World.block_lt_of_cell? w _ hw579_1)).trans hw579_1)⟩ (fun hHeld=>?_)
                     clear hK K
                     refine norm_ (a':=?_) ?_ ?_
                     rotate_left
                     ·show Act.put _ (some 6) _ = _
                      simp only [Act.put,sA,s0,sS,i64_w,i32_w]
                      rfl
                     refine one_ (i:=16) (N:=some 7) #[t_,t_,t_,t_,t_,t_,t_,t_,t_,t_,t_,t_,t_,t_,t_,t_,t_,f_,f_] rfl rfl (one_of HT_.out (by kernel_rfl)) (by decide) (fun K hK=>?_)
                     refine box_step ?hg (N:=7) ?hd (cs:=#[.int .i64 0,.int .i64 0]) (t:=31) ?hr ?_;(case hd=>rfl);(case hg=>rfl);(case hr=>first|(go_simp;done)|(go_simp;rfl))
                     intro gb581 hg w36 hbox hb
                     have n0_:=am (blk_below (g:=gb573) (o:=.cells #[.string a0_0,.slice (some ad578) l0_1.length c0_1] 25 (0,0)) (by (with_reducible repeat (first|apply bN|apply bD|apply bA));exact BK573.out) hb)
                     have n1_:=am (blk_below (g:=gb580) (o:=.cells #[.int .i64 0,.int .i64 0] 31 (0,0)) (by (with_reducible repeat (first|apply bN|apply bD|apply bA));exact BK580.out) hb)
                     have n2_:=am (below_step (by repeat (first|(with_reducible first|exact HB.out|apply lA|apply lN|apply lD|refine lS ?_ GE573.out|refine lS ?_ GE580.out)|exact HB.out)) hb)
                     have n3_:=am (hbox)
                     have n4_:=am ((by rw [hg];exact (below_size (by repeat (first|(with_reducible first|exact HB.out|apply lA|apply lN|apply lD|refine lS ?_ GE573.out|refine lS ?_ GE580.out)|exact HB.out))) : w.heap.size ≤ gb581))
                     have n5_:=am ((by rw [hg];exact (below_size (by repeat (first|(with_reducible first|exact HB.out|apply lA|apply lN|apply lD|refine lS ?_ GE573.out|refine lS ?_ GE580.out)|exact HB.out))) : w.heap.size ≤ gb581))
                     have n6_:=am ((by rw [hg];exact Nat.ne_of_lt (blk_lt (g:=gb573) (o:=.cells #[.string a0_0,.slice (some ad578) l0_1.length c0_1] 25 (0,0)) (by (with_reducible repeat (first|apply bN|apply bD|apply bA));exact BK573.out)) : gb573 ≠ gb581))
                     have n7_:=am ((by rw [hg];exact Nat.ne_of_gt (blk_lt (g:=gb573) (o:=.cells #[.string a0_0,.slice (some ad578) l0_1.length c0_1] 25 (0,0)) (by (with_reducible repeat (first|apply bN|apply bD|apply bA));exact BK573.out)) : gb581 ≠ gb573))
                     have n8_:=am ((by rw [hg];exact Nat.ne_of_lt (blk_lt (g:=gb580) (o:=.cells #[.int .i64 0,.int .i64 0] 31 (0,0)) (by (with_reducible repeat (first|apply bN|apply bD|apply bA));exact BK580.out)) : gb580 ≠ gb581))
                     have n9_:=am ((by rw [hg];exact Nat.ne_of_gt (blk_lt (g:=gb580) (o:=.cells #[.int .i64 0,.int .i64 0] 31 (0,0)) (by (with_reducible repeat (first|apply bN|apply bD|apply bA));exact BK580.out)) : gb581 ≠ gb580))
                     clear BK573
                     clear BK580
                     clear HB
                     have BK573:=n0_
                     have BK580:=n1_
                     have HB:=n2_
                     have BK581:=n3_
                     have GW581:=n4_
                     have GE581:=n5_
                     have NB573_581:=n6_
                     have NB581_573:=n7_
                     have NB580_581:=n8_
                     have NB581_580:=n9_
                     clear n0_ n1_ n2_ n3_ n4_ n5_ n6_ n7_ n8_ n9_
                     clear hb hbox hg
                     refine hK.out _ _ ⟨(blk_cell BK573.out 0).trans rfl,(blk_cell BK573.out 1).trans rfl,((HB.out.cell (World.block_lt_of_cell? w _ hw578_0)).trans hw578_0),((HB.out.cell (World.block_lt_of_cell? w _ hw578_1)).trans hw578_1),((HB.out.cell (World.block_lt_of_cell? w _ hw579_0)).trans hw579_0),((HB.out.cell (World.block_lt_of_cell? w _ hw579_1)).trans hw579_1)⟩ (fun hHeld=>?_)
                     clear hK K
                     refine norm_ (a':=?_) ?_ ?_
                     rotate_left
                     ·show Act.put _ (some 7) _ = _
                      simp only [Act.put,sA,s0,sS,i64_w,i32_w]
                      rfl
                     exact norm_ (by simp only [putAll,Act.put,sA,s0,sS]) (hCont (gb580,gb581) _ ⟨hHeld,(by (with_reducible repeat (first|apply bN|apply bD|apply bA));exact BK573.out),(by (with_reducible repeat (first|apply bN|apply bD|apply bA));exact BK580.out),(by (with_reducible repeat (first|apply bN|apply bD|apply bA));exact BK581.out),GW580.out,GE580.out,NB573_580.out,NB580_573.out,NB581_580.out,NB580_581.out,GW581.out,GE581.out,NB573_581.out,NB581_573.out,(by repeat (first|(with_reducible first|exact HB.out|apply lA|apply lN|apply lD|refine lS ?_ GE573.out|refine lS ?_ GE580.out|refine lS ?_ GE581.out)|exact HB.out))⟩)
                    ·skip
                     refine box_step ?hg (N:=7) ?hd (cs:=#[.int .i64 0,.int .i64 0]) (t:=31) ?hr ?_;(case hd=>rfl);(case hg=>rfl);(case hr=>first|(go_simp;done)|(go_simp;rfl))
                     intro gb581 hg w35 hbox hb
                     have n0_:=am (blk_below (g:=gb573) (o:=.cells #[.string a0_0,.slice (some ad578) l0_1.length c0_1] 25 (0,0)) (by (with_reducible repeat (first|apply bN|apply bD|apply bA));exact BK573.out) hb)
                     have n1_:=am (below_step (by repeat (first|(with_reducible first|exact HB.out|apply lA|apply lN|apply lD|refine lS ?_ GE573.out)|exact HB.out)) hb)
                     have n2_:=am (hbox)
                     have n3_:=am ((by rw [hg];exact (below_size (by repeat (first|(with_reducible first|exact HB.out|apply lA|apply lN|apply lD|refine lS ?_ GE573.out)|exact HB.out))) : w.heap.size ≤ gb581))
                     have n4_:=am ((by rw [hg];exact (below_size (by repeat (first|(with_reducible first|exact HB.out|apply lA|apply lN|apply lD|refine lS ?_ GE573.out)|exact HB.out))) : w.heap.size ≤ gb581))
                     have n5_:=am ((by rw [hg];exact Nat.ne_of_lt (blk_lt (g:=gb573) (o:=.cells #[.string a0_0,.slice (some ad578) l0_1.length c0_1] 25 (0,0)) (by (with_reducible repeat (first|apply bN|apply bD|apply bA));exact BK573.out)) : gb573 ≠ gb581))
                     have n6_:=am ((by rw [hg];exact Nat.ne_of_gt (blk_lt (g:=gb573) (o:=.cells #[.string a0_0,.slice (some ad578) l0_1.length c0_1] 25 (0,0)) (by (with_reducible repeat (first|apply bN|apply bD|apply bA));exact BK573.out)) : gb581 ≠ gb573))
                     clear BK573
                     clear HB
                     have BK573:=n0_
                     have HB:=n1_
                     have BK581:=n2_
                     have GW581:=n3_
                     have GE581:=n4_
                     have NB573_581:=n5_
                     have NB581_573:=n6_
                     clear n0_ n1_ n2_ n3_ n4_ n5_ n6_
                     clear hb hbox hg
                     refine hK.out _ _ ⟨(blk_cell BK573.out 0).trans rfl,(blk_cell BK573.out 1).trans rfl,((HB.out.cell (World.block_lt_of_cell? w _ hw578_0)).trans hw578_0),((HB.out.cell (World.block_lt_of_cell? w _ hw578_1)).trans hw578_1),((HB.out.cell (World.block_lt_of_cell? w _ hw579_0)).trans hw579_0),((HB.out.cell (World.block_lt_of_cell? w _ hw579_1)).trans hw579_1)⟩ (fun hHeld=>?_)
                     clear hK K
                     refine norm_ (a':=?_) ?_ ?_
                     rotate_left
                     ·show Act.put _ (some 7) _ = _
                      simp only [Act.put,sA,s0,sS,i64_w,i32_w]
                      rfl
                     refine one_ (i:=15) (N:=some 6) #[t_,t_,t_,t_,t_,t_,t_,t_,t_,t_,t_,t_,t_,t_,t_,t_,t_,f_,f_] rfl rfl (one_of HT_.out (by kernel_rfl)) (by decide) (fun K hK=>?_)
                     refine box_step ?hg (N:=6) ?hd (cs:=#[.int .i64 0,.int .i64 0]) (t:=31) ?hr ?_;(case hd=>rfl);(case hg=>rfl);(case hr=>first|(go_simp;done)|(go_simp;rfl))
                     intro gb580 hg w36 hbox hb
                     have n0_:=am (blk_below (g:=gb573) (o:=.cells #[.string a0_0,.slice (some ad578) l0_1.length c0_1] 25 (0,0)) (by (with_reducible repeat (first|apply bN|apply bD|apply bA));exact BK573.out) hb)
                     have n1_:=am (blk_below (g:=gb581) (o:=.cells #[.int .i64 0,.int .i64 0] 31 (0,0)) (by (with_reducible repeat (first|apply bN|apply bD|apply bA));exact BK581.out) hb)
                     have n2_:=am (below_step (by repeat (first|(with_reducible first|exact HB.out|apply lA|apply lN|apply lD|refine lS ?_ GE573.out|refine lS ?_ GE581.out)|exact HB.out)) hb)
                     have n3_:=am (hbox)
                     have n4_:=am ((by rw [hg];exact (below_size (by repeat (first|(with_reducible first|exact HB.out|apply lA|apply lN|apply lD|refine lS ?_ GE573.out|refine lS ?_ GE581.out)|exact HB.out))) : w.heap.size ≤ gb580))
                     have n5_:=am ((by rw [hg];exact (below_size (by repeat (first|(with_reducible first|exact HB.out|apply lA|apply lN|apply lD|refine lS ?_ GE573.out|refine lS ?_ GE581.out)|exact HB.out))) : w.heap.size ≤ gb580))
                     have n6_:=am ((by rw [hg];exact Nat.ne_of_lt (blk_lt (g:=gb573) (o:=.cells #[.string a0_0,.slice (some ad578) l0_1.length c0_1] 25 (0,0)) (by (with_reducible repeat (first|apply bN|apply bD|apply bA));exact BK573.out)) : gb573 ≠ gb580))
                     have n7_:=am ((by rw [hg];exact Nat.ne_of_gt (blk_lt (g:=gb573) (o:=.cells #[.string a0_0,.slice (some ad578) l0_1.length c0_1] 25 (0,0)) (by (with_reducible repeat (first|apply bN|apply bD|apply bA));exact BK573.out)) : gb580 ≠ gb573))
                     have n8_:=am ((by rw [hg];exact Nat.ne_of_lt (blk_lt (g:=gb581) (o:=.cells #[.int .i64 0,.int .i64 0] 31 (0,0)) (by (with_reducible repeat (first|apply bN|apply bD|apply bA));exact BK581.out)) : gb581 ≠ gb580))
                     have n9_:=am ((by rw [hg];exact Nat.ne_of_gt (blk_lt (g:=gb581) (o:=.cells #[.int .i64 0,.int .i64 0] 31 (0,0)) (by (with_reducible repeat (first|apply bN|apply bD|apply bA));exact BK581.out)) : gb580 ≠ gb581))
                     clear BK573
                     clear BK581
                     clear HB
                     have BK573:=n0_
                     have BK581:=n1_
                     have HB:=n2_
                     have BK580:=n3_
                     have GW580:=n4_
                     have GE580:=n5_
                     have NB573_580:=n6_
                     have NB580_573:=n7_
                     have NB581_580:=n8_
                     have NB580_581:=n9_
                     clear n0_ n1_ n2_ n3_ n4_ n5_ n6_ n7_ n8_ n9_
                     clear hb hbox hg
                     refine hK.out _ _ ⟨(blk_cell BK573.out 0).trans rfl,(blk_cell BK573.out 1).trans rfl,((HB.out.cell (World.block_lt_of_cell? w _ hw578_0)).trans hw578_0),((HB.out.cell (World.block_lt_of_cell? w _ hw578_1)).trans hw578_1),((HB.out.cell (World.block_lt_of_cell? w _ hw579_0)).trans hw579_0),((HB.out.cell (World.block_lt_of_cell? w _ hw579_1)).trans hw579_1)⟩ (fun hHeld=>?_)
                     clear hK K
                     refine norm_ (a':=?_) ?_ ?_
                     rotate_left
                     ·show Act.put _ (some 6) _ = _
                      simp only [Act.put,sA,s0,sS,i64_w,i32_w]
                      rfl
                     exact norm_ (by simp only [putAll,Act.put,sA,s0,sS]) (hCont (gb580,gb581) _ ⟨hHeld,(by (with_reducible repeat (first|apply bN|apply bD|apply bA));exact BK573.out),(by (with_reducible repeat (first|apply bN|apply bD|apply bA));exact BK580.out),(by (with_reducible repeat (first|apply bN|apply bD|apply bA));exact BK581.out),GW580.out,GE580.out,NB573_580.out,NB580_573.out,NB581_580.out,NB580_581.out,GW581.out,GE581.out,NB573_581.out,NB581_573.out,(by repeat (first|(with_reducible first|exact HB.out|apply lA|apply lN|apply lD|refine lS ?_ GE573.out|refine lS ?_ GE581.out|refine lS ?_ GE580.out)|exact HB.out))⟩)
                   rintro ⟨gb580,gb581⟩ w37 ⟨hS_,h0_,h1_,h2_,h3_,h4_,h5_,h6_,h7_,h8_,h9_,h10_,h11_,h12_,h13_⟩
                   have n0_ : Aside0 (w37.heap[gb573]? = some (.cells #[.string a0_0,.slice (some ad578) l0_1.length c0_1] 25 (0,0))):=⟨h0_⟩
                   have n1_ : Aside0 (w37.heap[gb580]? = some (.cells #[.int .i64 0,.int .i64 0] 31 (0,0))):=⟨h1_⟩
                   have n2_ : Aside0 (w37.heap[gb581]? = some (.cells #[.int .i64 0,.int .i64 0] 31 (0,0))):=⟨h2_⟩
                   have n3_ : Aside0 (w.heap.size ≤ gb580):=⟨h3_⟩
                   have n4_ : Aside0 (w.heap.size ≤ gb580):=⟨h4_⟩
                   have n5_ : Aside0 (gb573 ≠ gb580):=⟨h5_⟩
                   have n6_ : Aside0 (gb580 ≠ gb573):=⟨h6_⟩
                   have n7_ : Aside0 (gb581 ≠ gb580):=⟨h7_⟩
                   have n8_ : Aside0 (gb580 ≠ gb581):=⟨h8_⟩
                   have n9_ : Aside0 (w.heap.size ≤ gb581):=⟨h9_⟩
                   have n10_ : Aside0 (w.heap.size ≤ gb581):=⟨h10_⟩
                   have n11_ : Aside0 (gb573 ≠ gb581):=⟨h11_⟩
                   have n12_ : Aside0 (gb581 ≠ gb573):=⟨h12_⟩
                   have n13_ : Aside0 (Below w.heap.size w w37):=⟨h13_⟩
                   clear BK573
                   clear HB
                   clear h0_ h1_ h2_ h3_ h4_ h5_ h6_ h7_ h8_ h9_ h10_ h11_ h12_ h13_
                   have BK573:=n0_
                   have BK580:=n1_
                   have BK581:=n2_
                   have GW580:=n3_
                   have GE580:=n4_
                   have NB573_580:=n5_
                   have NB580_573:=n6_
                   have NB581_580:=n7_
                   have NB580_581:=n8_
                   have GW581:=n9_
                   have GE581:=n10_
                   have NB573_581:=n11_
                   have NB581_573:=n12_
                   have HB:=n13_
                   clear n0_ n1_ n2_ n3_ n4_ n5_ n6_ n7_ n8_ n9_ n10_ n11_ n12_ n13_
                   have hHeld : w37.cell? ⟨gb573,0,none⟩ = some (.string a0_0) ∧ w37.cell? ⟨gb573,1,none⟩ = some (.slice (some ad578) l0_1.length c0_1) ∧ w37.cell? (ad578.add ((t576).toNat * 2)) = some (.int .i64 ((rd_T31 l0_1 t576).f0)) ∧ w37.cell? ⟨(ad578.add ((t576).toNat * 2)).block,(ad578.add ((t576).toNat * 2)).off + 1,none⟩ = some (.int .i64 ((rd_T31 l0_1 t576).f1)) ∧ w37.cell? (ad578.add (((ji27)).toNat * 2)) = some (.int .i64 ((rd_T31 l0_1 (ji27)).f0)) ∧ w37.cell? ⟨(ad578.add (((ji27)).toNat * 2)).block,(ad578.add (((ji27)).toNat * 2)).off + 1,none⟩ = some (.int .i64 ((rd_T31 l0_1 (ji27)).f1)):=hS_
                   refine norm_ (a':=?_) ?_ ?_
                   rotate_left
                   ·simp only [putAll,Act.put,sA,s0,sS]
                    rfl
                   refine one_ (i:=17) (N:=none) #[t_,t_,t_,t_,t_,t_,t_,t_,t_,t_,t_,t_,t_,t_,t_,t_,t_,t_,f_] rfl rfl (one_of HT_.out (by kernel_rfl)) (by decide) (fun K hK=>?_)
                   have hs38 : w37.cell? ⟨gb580,0,none⟩ = some (.int .i64 0):=(blk_cell BK580.out 0).trans rfl
                   have hfs38:=blk_frozen BK580.out 0
                   have hns38_0:=NB573_580.out
                   have hns38_2:=NB581_580.out
                   have hms38_0:=NB580_573.out
                   have hms38_2:=NB580_581.out
                   have hs39 : w37.cell? ⟨gb580,1,none⟩ = some (.int .i64 0):=(blk_cell BK580.out 1).trans rfl
                   have hfs39:=blk_frozen BK580.out 1
                   have hns39_0:=NB573_580.out
                   have hns39_2:=NB581_580.out
                   have hms39_0:=NB580_573.out
                   have hms39_2:=NB580_581.out
                   refine skip_ (w1:=?_) (by rfl) rfl ?_ ?_
                   rotate_left
                   ·go_simp
                    rfl
                   refine hK.out _ _ ⟨((cell_far (p:=⟨gb580,_,none⟩) NB573_580.out _).trans (((cell_far (p:=⟨gb580,_,none⟩) NB573_580.out _).trans (hHeld.1)))),((cell_far (p:=⟨gb580,_,none⟩) NB573_580.out _).trans (((cell_far (p:=⟨gb580,_,none⟩) NB573_580.out _).trans (hHeld.2.1)))),((cell_far (p:=⟨gb580,_,none⟩) (by first|exact Nat.ne_of_lt (Nat.lt_of_lt_of_le (by have:=World.block_lt_of_cell? _ _ hw578_0;first|rwa [add_block] at this|exact this) GW580.out)|(rw [add_block];exact Nat.ne_of_lt (Nat.lt_of_lt_of_le (by have:=World.block_lt_of_cell? _ _ hw578_0;first|rwa [add_block] at this|exact this) GW580.out))|(show (Addr.add _ _).block ≠ _;rw [add_block];exact Nat.ne_of_lt (Nat.lt_of_lt_of_le (by have:=World.block_lt_of_cell? _ _ hw578_0;first|rwa [add_block] at this|exact this) GW580.out))|(dsimp only;exact Nat.ne_of_lt (Nat.lt_of_lt_of_le (by have:=World.block_lt_of_cell? _ _ hw578_0;first|rwa [add_block] at this|exact this) GW580.out))) _).trans (((cell_far (p:=⟨gb580,_,none⟩) (by first|exact Nat.ne_of_lt (Nat.lt_of_lt_of_le (by have:=World.block_lt_of_cell? _ _ hw578_0;first|rwa [add_block] at this|exact this) GW580.out)|(rw [add_block];exact Nat.ne_of_lt (Nat.lt_of_lt_of_le (by have:=World.block_lt_of_cell? _ _ hw578_0;first|rwa [add_block] at this|exact this) GW580.out))|(show (Addr.add _ _).block ≠ _;rw [add_block];exact Nat.ne_of_lt (Nat.lt_of_lt_of_le (by have:=World.block_lt_of_cell? _ _ hw578_0;first|rwa [add_block] at this|exact this) GW580.out))|(dsimp only;exact Nat.ne_of_lt (Nat.lt_of_lt_of_le (by have:=World.block_lt_of_cell? _ _ hw578_0;first|rwa [add_block] at this|exact this) GW580.out))) _).trans (hHeld.2.2.1)))),((cell_far (p:=⟨gb580,_,none⟩) (by first|exact Nat.ne_of_lt (Nat.lt_of_lt_of_le (by have:=World.block_lt_of_cell? _ _ hw578_1;first|rwa [add_block] at this|exact this) GW580.out)|(rw [add_block];exact Nat.ne_of_lt (Nat.lt_of_lt_of_le (by have:=World.block_lt_of_cell? _ _ hw578_1;first|rwa [add_block] at this|exact this) GW580.out))|(show (Addr.add _ _).block ≠ _;rw [add_block];exact Nat.ne_of_lt (Nat.lt_of_lt_of_le (by have:=World.block_lt_of_cell? _ _ hw578_1;first|rwa [add_block] at this|exact this) GW580.out))|(dsimp only;exact Nat.ne_of_lt (Nat.lt_of_lt_of_le (by have:=World.block_lt_of_cell? _ _ hw578_1;first|rwa [add_block] at this|exact this) GW580.out))) _).trans (((cell_far (p:=⟨gb580,_,none⟩) (by first|exact Nat.ne_of_lt (Nat.lt_of_lt_of_le (by have:=World.block_lt_of_cell? _ _ hw578_1;first|rwa [add_block] at this|exact this) GW580.out)|(rw [add_block];exact Nat.ne_of_lt (Nat.lt_of_lt_of_le (by have:=World.block_lt_of_cell? _ _ hw578_1;first|rwa [add_block] at this|exact this) GW580.out))|(show (Addr.add _ _).block ≠ _;rw [add_block];exact Nat.ne_of_lt (Nat.lt_of_lt_of_le (by have:=World.block_lt_of_cell? _ _ hw578_1;first|rwa [add_block] at this|exact this) GW580.out))|(dsimp only;exact Nat.ne_of_lt (Nat.lt_of_lt_of_le (by have:=World.block_lt_of_cell? _ _ hw578_1;first|rwa [add_block] at this|exact this) GW580.out))) _).trans (hHeld.2.2.2.1)))),((cell_far (p:=⟨gb580,_,none⟩) (by first|exact Nat.ne_of_lt (Nat.lt_of_lt_of_le (by have:=World.block_lt_of_cell? _ _ hw579_0;first|rwa [add_block] at this|exact this) GW580.out)|(rw [add_block];exact Nat.ne_of_lt (Nat.lt_of_lt_of_le (by have:=World.block_lt_of_cell? _ _ hw579_0;first|rwa [add_block] at this|exact this) GW580.out))|(show (Addr.add _ _).block ≠ _;rw [add_block];exact Nat.ne_of_lt (Nat.lt_of_lt_of_le (by have:=World.block_lt_of_cell? _ _ hw579_0;first|rwa [add_block] at this|exact this) GW580.out))|(dsimp only;exact Nat.ne_of_lt (Nat.lt_of_lt_of_le (by have:=World.block_lt_of_cell? _ _ hw579_0;first|rwa [add_block] at this|exact this) GW580.out))) _).trans (((cell_far (p:=⟨gb580,_,none⟩) (by first|exact Nat.ne_of_lt (Nat.lt_of_lt_of_le (by have:=World.block_lt_of_cell? _ _ hw579_0;first|rwa [add_block] at this|exact this) GW580.out)|(rw [add_block];exact Nat.ne_of_lt (Nat.lt_of_lt_of_le (by have:=World.block_lt_of_cell? _ _ hw579_0;first|rwa [add_block] at this|exact this) GW580.out))|(show (Addr.add _ _).block ≠ _;rw [add_block];exact Nat.ne_of_lt (Nat.lt_of_lt_of_le (by have:=World.block_lt_of_cell? _ _ hw579_0;first|rwa [add_block] at this|exact this) GW580.out))|(dsimp only;exact Nat.ne_of_lt (Nat.lt_of_lt_of_le (by have:=World.block_lt_of_cell? _ _ hw579_0;first|rwa [add_block] at this|exact this) GW580.out))) _).trans (hHeld.2.2.2.2.1)))),((cell_far (p:=⟨gb580,_,none⟩) (by first|exact Nat.ne_of_lt (Nat.lt_of_lt_of_le (by have:=World.block_lt_of_cell? _ _ hw579_1;first|rwa [add_block] at this|exact this) GW580.out)|(rw [add_block];exact Nat.ne_of_lt (Nat.lt_of_lt_of_le (by have:=World.block_lt_of_cell? _ _ hw579_1;first|rwa [add_block] at this|exact this) GW580.out))|(show (Addr.add _ _).block ≠ _;rw [add_block];exact Nat.ne_of_lt (Nat.lt_of_lt_of_le (by have:=World.block_lt_of_cell? _ _ hw579_1;first|rwa [add_block] at this|exact this) GW580.out))|(dsimp only;exact Nat.ne_of_lt (Nat.lt_of_lt_of_le (by have:=World.block_lt_of_cell? _ _ hw579_1;first|rwa [add_block] at this|exact this) GW580.out))) _).trans (((cell_far (p:=⟨gb580,_,none⟩) (by first|exact Nat.ne_of_lt (Nat.lt_of_lt_of_le (by have:=World.block_lt_of_cell? _ _ hw579_1;first|rwa [add_block] at this|exact this) GW580.out)|(rw [add_block];exact Nat.ne_of_lt (Nat.lt_of_lt_of_le (by have:=World.block_lt_of_cell? _ _ hw579_1;first|rwa [add_block] at this|exact this) GW580.out))|(show (Addr.add _ _).block ≠ _;rw [add_block];exact Nat.ne_of_lt (Nat.lt_of_lt_of_le (by have:=World.block_lt_of_cell? _ _ hw579_1;first|rwa [add_block] at this|exact this) GW580.out))|(dsimp only;exact Nat.ne_of_lt (Nat.lt_of_lt_of_le (by have:=World.block_lt_of_cell? _ _ hw579_1;first|rwa [add_block] at this|exact this) GW580.out))) _).trans (hHeld.2.2.2.2.2))))⟩ (fun hHeld=>?_)
                   clear hK K
                   refine one_ (i:=18) (N:=none) #[t_,t_,t_,t_,t_,t_,t_,t_,t_,t_,t_,t_,t_,t_,t_,t_,t_,t_,t_] rfl rfl (one_of HT_.out (by kernel_rfl)) (by decide) (fun K hK=>?_)
                   have hs40 : w37.cell? ⟨gb581,0,none⟩ = some (.int .i64 0):=(blk_cell BK581.out 0).trans rfl
                   have hfs40:=blk_frozen BK581.out 0
                   have hns40_0:=NB573_581.out
                   have hns40_1:=NB580_581.out
                   have hms40_0:=NB581_573.out
                   have hms40_1:=NB581_580.out
                   have hs41 : w37.cell? ⟨gb581,1,none⟩ = some (.int .i64 0):=(blk_cell BK581.out 1).trans rfl
                   have hfs41:=blk_frozen BK581.out 1
                   have hns41_0:=NB573_581.out
                   have hns41_1:=NB580_581.out
                   have hms41_0:=NB581_573.out
                   have hms41_1:=NB581_580.out
                   refine skip_ (w1:=?_) (by rfl) rfl ?_ ?_
                   rotate_left
                   ·go_simp
                    rfl
                   refine hK.out _ _ ⟨((cell_far (p:=⟨gb581,_,none⟩) NB573_581.out _).trans (((cell_far (p:=⟨gb581,_,none⟩) NB573_581.out _).trans (hHeld.1)))),((cell_far (p:=⟨gb581,_,none⟩) NB573_581.out _).trans (((cell_far (p:=⟨gb581,_,none⟩) NB573_581.out _).trans (hHeld.2.1)))),((cell_far (p:=⟨gb581,_,none⟩) (by first|exact Nat.ne_of_lt (Nat.lt_of_lt_of_le (by have:=World.block_lt_of_cell? _ _ hw578_0;first|rwa [add_block] at this|exact this) GW581.out)|(rw [add_block];exact Nat.ne_of_lt (Nat.lt_of_lt_of_le (by have:=World.block_lt_of_cell? _ _ hw578_0;first|rwa [add_block] at this|exact this) GW581.out))|(show (Addr.add _ _).block ≠ _;rw [add_block];exact Nat.ne_of_lt (Nat.lt_of_lt_of_le (by have:=World.block_lt_of_cell? _ _ hw578_0;first|rwa [add_block] at this|exact this) GW581.out))|(dsimp only;exact Nat.ne_of_lt (Nat.lt_of_lt_of_le (by have:=World.block_lt_of_cell? _ _ hw578_0;first|rwa [add_block] at this|exact this) GW581.out))) _).trans (((cell_far (p:=⟨gb581,_,none⟩) (by first|exact Nat.ne_of_lt (Nat.lt_of_lt_of_le (by have:=World.block_lt_of_cell? _ _ hw578_0;first|rwa [add_block] at this|exact this) GW581.out)|(rw [add_block];exact Nat.ne_of_lt (Nat.lt_of_lt_of_le (by have:=World.block_lt_of_cell? _ _ hw578_0;first|rwa [add_block] at this|exact this) GW581.out))|(show (Addr.add _ _).block ≠ _;rw [add_block];exact Nat.ne_of_lt (Nat.lt_of_lt_of_le (by have:=World.block_lt_of_cell? _ _ hw578_0;first|rwa [add_block] at this|exact this) GW581.out))|(dsimp only;exact Nat.ne_of_lt (Nat.lt_of_lt_of_le (by have:=World.block_lt_of_cell? _ _ hw578_0;first|rwa [add_block] at this|exact this) GW581.out))) _).trans (hHeld.2.2.1)))),((cell_far (p:=⟨gb581,_,none⟩) (by first|exact Nat.ne_of_lt (Nat.lt_of_lt_of_le (by have:=World.block_lt_of_cell? _ _ hw578_1;first|rwa [add_block] at this|exact this) GW581.out)|(rw [add_block];exact Nat.ne_of_lt (Nat.lt_of_lt_of_le (by have:=World.block_lt_of_cell? _ _ hw578_1;first|rwa [add_block] at this|exact this) GW581.out))|(show (Addr.add _ _).block ≠ _;rw [add_block];exact Nat.ne_of_lt (Nat.lt_of_lt_of_le (by have:=World.block_lt_of_cell? _ _ hw578_1;first|rwa [add_block] at this|exact this) GW581.out))|(dsimp only;exact Nat.ne_of_lt (Nat.lt_of_lt_of_le (by have:=World.block_lt_of_cell? _ _ hw578_1;first|rwa [add_block] at this|exact this) GW581.out))) _).trans (((cell_far (p:=⟨gb581,_,none⟩) (by first|exact Nat.ne_of_lt (Nat.lt_of_lt_of_le (by have:=World.block_lt_of_cell? _ _ hw578_1;first|rwa [add_block] at this|exact this) GW581.out)|(rw [add_block];exact Nat.ne_of_lt (Nat.lt_of_lt_of_le (by have:=World.block_lt_of_cell? _ _ hw578_1;first|rwa [add_block] at this|exact this) GW581.out))|(show (Addr.add _ _).block ≠ _;rw [add_block];exact Nat.ne_of_lt (Nat.lt_of_lt_of_le (by have:=World.block_lt_of_cell? _ _ hw578_1;first|rwa [add_block] at this|exact this) GW581.out))|(dsimp only;exact Nat.ne_of_lt (Nat.lt_of_lt_of_le (by have:=World.block_lt_of_cell? _ _ hw578_1;first|rwa [add_block] at this|exact this) GW581.out))) _).trans (hHeld.2.2.2.1)))),((cell_far (p:=⟨gb581,_,none⟩) (by first|exact Nat.ne_of_lt (Nat.lt_of_lt_of_le (by have:=World.block_lt_of_cell? _ _ hw579_0;first|rwa [add_block] at this|exact this) GW581.out)|(rw [add_block];exact Nat.ne_of_lt (Nat.lt_of_lt_of_le (by have:=World.block_lt_of_cell? _ _ hw579_0;first|rwa [add_block] at this|exact this) GW581.out))|(show (Addr.add _ _).block ≠ _;rw [add_block];exact Nat.ne_of_lt (Nat.lt_of_lt_of_le (by have:=World.block_lt_of_cell? _ _ hw579_0;first|rwa [add_block] at this|exact this) GW581.out))|(dsimp only;exact Nat.ne_of_lt (Nat.lt_of_lt_of_le (by have:=World.block_lt_of_cell? _ _ hw579_0;first|rwa [add_block] at this|exact this) GW581.out))) _).trans (((cell_far (p:=⟨gb581,_,none⟩) (by first|exact Nat.ne_of_lt (Nat.lt_of_lt_of_le (by have:=World.block_lt_of_cell? _ _ hw579_0;first|rwa [add_block] at this|exact this) GW581.out)|(rw [add_block];exact Nat.ne_of_lt (Nat.lt_of_lt_of_le (by have:=World.block_lt_of_cell? _ _ hw579_0;first|rwa [add_block] at this|exact this) GW581.out))|(show (Addr.add _ _).block ≠ _;rw [add_block];exact Nat.ne_of_lt (Nat.lt_of_lt_of_le (by have:=World.block_lt_of_cell? _ _ hw579_0;first|rwa [add_block] at this|exact this) GW581.out))|(dsimp only;exact Nat.ne_of_lt (Nat.lt_of_lt_of_le (by have:=World.block_lt_of_cell? _ _ hw579_0;first|rwa [add_block] at this|exact this) GW581.out))) _).trans (hHeld.2.2.2.2.1)))),((cell_far (p:=⟨gb581,_,none⟩) (by first|exact Nat.ne_of_lt (Nat.lt_of_lt_of_le (by have:=World.block_lt_of_cell? _ _ hw579_1;first|rwa [add_block] at this|exact this) GW581.out)|(rw [add_block];exact Nat.ne_of_lt (Nat.lt_of_lt_of_le (by have:=World.block_lt_of_cell? _ _ hw579_1;first|rwa [add_block] at this|exact this) GW581.out))|(show (Addr.add _ _).block ≠ _;rw [add_block];exact Nat.ne_of_lt (Nat.lt_of_lt_of_le (by have:=World.block_lt_of_cell? _ _ hw579_1;first|rwa [add_block] at this|exact this) GW581.out))|(dsimp only;exact Nat.ne_of_lt (Nat.lt_of_lt_of_le (by have:=World.block_lt_of_cell? _ _ hw579_1;first|rwa [add_block] at this|exact this) GW581.out))) _).trans (((cell_far (p:=⟨gb581,_,none⟩) (by first|exact Nat.ne_of_lt (Nat.lt_of_lt_of_le (by have:=World.block_lt_of_cell? _ _ hw579_1;first|rwa [add_block] at this|exact this) GW581.out)|(rw [add_block];exact Nat.ne_of_lt (Nat.lt_of_lt_of_le (by have:=World.block_lt_of_cell? _ _ hw579_1;first|rwa [add_block] at this|exact this) GW581.out))|(show (Addr.add _ _).block ≠ _;rw [add_block];exact Nat.ne_of_lt (Nat.lt_of_lt_of_le (by have:=World.block_lt_of_cell? _ _ hw579_1;first|rwa [add_block] at this|exact this) GW581.out))|(dsimp only;exact Nat.ne_of_lt (Nat.lt_of_lt_of_le (by have:=World.block_lt_of_cell? _ _ hw579_1;first|rwa [add_block] at this|exact this) GW581.out))) _).trans (hHeld.2.2.2.2.2))))⟩ (fun hHeld=>?_)
                   clear hK K
                   refine done_ (done_of HT_.out (by kernel_rfl)) ?_
                   have hnb42:=NB581_573.out
                   have hnc42:=NB573_581.out
                   have hnb43:=NB581_580.out
                   have hnc43:=NB580_581.out
                   have hcz44_0 : w37.cell? ⟨gb581,0,none⟩ = some (.int .i64 0):=(blk_cell BK581.out 0).trans rfl
                   have hcz44_1 : w37.cell? ⟨gb581,1,none⟩ = some (.int .i64 0):=(blk_cell BK581.out 1).trans rfl
                   have hfz44_0:=blk_frozen BK581.out 0
                   have hfz44_1:=blk_frozen BK581.out 1
                   have hnb45:=NB580_573.out
                   have hnc45:=NB573_580.out
                   have hcz46_0 : w37.cell? ⟨gb580,0,none⟩ = some (.int .i64 0):=(blk_cell BK580.out 0).trans rfl
                   have hcz46_1 : w37.cell? ⟨gb580,1,none⟩ = some (.int .i64 0):=(blk_cell BK580.out 1).trans rfl
                   have hfz46_0:=blk_frozen BK580.out 0
                   have hfz46_1:=blk_frozen BK580.out 1
                   try go_wp2_with (first|((with_reducible refine gate_dst (N:=80) rfl ?_);(try (refine gate_guard (by rfl) ?_;dsimp only));refine Kd.R_lit Kd.bool _ 4 ?hg (N:=80) ?hd (xs:=([decide (((rd_T31 l0_1 (ji27)).f1) < ((rd_T31 l0_1 t576).f1)),decide (((rd_T31 l0_1 (ji27)).f1) > ((rd_T31 l0_1 t576).f1)),decide (((rd_T31 l0_1 (ji27)).f0) > ((rd_T31 l0_1 t576).f0)),decide (((rd_T31 l0_1 (ji27)).f0) < ((rd_T31 l0_1 t576).f0))] : List Bool)) (inner:=[.bool (decide (((rd_T31 l0_1 (ji27)).f1) < ((rd_T31 l0_1 t576).f1))),.bool (decide (((rd_T31 l0_1 (ji27)).f1) > ((rd_T31 l0_1 t576).f1))),.bool (decide (((rd_T31 l0_1 (ji27)).f0) > ((rd_T31 l0_1 t576).f0))),.bool (decide (((rd_T31 l0_1 (ji27)).f0) < ((rd_T31 l0_1 t576).f0)))]) (ok:=fun _=>True) (okp:=fun _=>True) ?hr ?hp (fun _ hk=>hk) trivial (Below.refl _ _) (Nat.le_refl _) (by simp) ?_;(case hd=>rfl);(case hg=>rfl);(case hr=>first|(go_simp;done)|(go_simp;rfl));(case hp=>exact (Reps.one (show Kd.M Kd.bool _ _ _ (decide (((rd_T31 l0_1 (ji27)).f1) < ((rd_T31 l0_1 t576).f1))) [.bool (decide (((rd_T31 l0_1 (ji27)).f1) < ((rd_T31 l0_1 t576).f1)))] from rfl) (Reps.one (show Kd.M Kd.bool _ _ _ (decide (((rd_T31 l0_1 (ji27)).f1) > ((rd_T31 l0_1 t576).f1))) [.bool (decide (((rd_T31 l0_1 (ji27)).f1) > ((rd_T31 l0_1 t576).f1)))] from rfl) (Reps.one (show Kd.M Kd.bool _ _ _ (decide (((rd_T31 l0_1 (ji27)).f0) > ((rd_T31 l0_1 t576).f0))) [.bool (decide (((rd_T31 l0_1 (ji27)).f0) > ((rd_T31 l0_1 t576).f0)))] from rfl) (Reps.one (show Kd.M Kd.bool _ _ _ (decide (((rd_T31 l0_1 (ji27)).f0) < ((rd_T31 l0_1 t576).f0))) [.bool (decide (((rd_T31 l0_1 (ji27)).f0) < ((rd_T31 l0_1 t576).f0)))] from rfl) (Reps.none _ _))))));intro v583 w47 ho48 hb hg_ hnew_;clear hg_ hnew_;(first|rw [← Ny582.out] at ho48|(simp only [Int.reduceToNat] at ho48;rw [← Ny582.out] at ho48));have n0_:=am (Kd.R_lower ho48 (below_size (by repeat (first|(with_reducible first|exact HB.out|apply lA|apply lN|apply lD|refine lS ?_ GE573.out|refine lS ?_ GE580.out|refine lS ?_ GE581.out)|exact HB.out))));have n1_:=am (blk_below (g:=gb573) (o:=.cells #[.string a0_0,.slice (some ad578) l0_1.length c0_1] 25 (0,0)) (by (with_reducible repeat (first|apply bN|apply bD|apply bA));refine blk_far ?_ NB573_581.out _;(with_reducible repeat (first|apply bN|apply bD|apply bA));refine blk_far ?_ NB573_581.out _;(with_reducible repeat (first|apply bN|apply bD|apply bA));refine blk_far ?_ NB573_580.out _;(with_reducible repeat (first|apply bN|apply bD|apply bA));refine blk_far ?_ NB573_580.out _;(with_reducible repeat (first|apply bN|apply bD|apply bA));exact BK573.out) hb);have n2_:=am (blk_below (g:=gb580) (o:=.cells #[.int .i64 ((rd_T31 l0_1 t576).f0),.int .i64 ((rd_T31 l0_1 t576).f1)] 31 (0,0)) (by (with_reducible repeat (first|apply bN|apply bD|apply bA));refine blk_far ?_ NB580_581.out _;(with_reducible repeat (first|apply bN|apply bD|apply bA));refine blk_far ?_ NB580_581.out _;(with_reducible repeat (first|apply bN|apply bD|apply bA));refine blk_put (cs:=#[.int .i64 ((rd_T31 l0_1 t576).f0),.int .i64 0]) ?_ 1 _ rfl;(with_reducible repeat (first|apply bN|apply bD|apply bA));refine blk_put (cs:=#[.int .i64 0,.int .i64 0]) ?_ 0 _ rfl;(with_reducible repeat (first|apply bN|apply bD|apply bA));exact BK580.out) hb);have n3_:=am (blk_below (g:=gb581) (o:=.cells #[.int .i64 ((rd_T31 l0_1 (ji27)).f0),.int .i64 ((rd_T31 l0_1 (ji27)).f1)] 31 (0,0)) (by (with_reducible repeat (first|apply bN|apply bD|apply bA));refine blk_put (cs:=#[.int .i64 ((rd_T31 l0_1 (ji27)).f0),.int .i64 0]) ?_ 1 _ rfl;(with_reducible repeat (first|apply bN|apply bD|apply bA));refine blk_put (cs:=#[.int .i64 0,.int .i64 0]) ?_ 0 _ rfl;(with_reducible repeat (first|apply bN|apply bD|apply bA));refine blk_far ?_ NB581_580.out _;(with_reducible repeat (first|apply bN|apply bD|apply bA));refine blk_far ?_ NB581_580.out _;(with_reducible repeat (first|apply bN|apply bD|apply bA));exact BK581.out) hb);have n4_:=am (below_step (by repeat (first|(with_reducible first|exact HB.out|apply lA|apply lN|apply lD|refine lS ?_ GE573.out|refine lS ?_ GE580.out|refine lS ?_ GE581.out)|exact HB.out)) hb);clear BK573;clear BK580;clear BK581;clear HB;have HO584:=n0_;have BK573:=n1_;have BK580:=n2_;have BK581:=n3_;have HB:=n4_;clear n0_ n1_ n2_ n3_ n4_;clear hb ho48;obtain ⟨Ao49,co49,eo49⟩ := Kd.R_slice HO584.out;subst eo49;have p585 : 0 ≤ (x3_1 : Int):=of_decide_eq_true (by first|(with_reducible assumption)|assumption);have q585 : x3_1 < (y582.length : Int):=of_decide_eq_true (by first|(with_reducible assumption)|assumption);obtain ⟨ad585,e585,hx585_0⟩ := Kd.at_bool (Kd.R_reads' HO584.out).2.2 x3_1 p585 q585;(try rw [← Nbq32.out] at hx585_0);cases e585;replace p585:=eq_true p585;replace q585:=eq_true q585))
                   go_roundg kj15
                   case measure=>have:=HK1.out;have:=HJ15.out;omega
                   case rel=>exact ⟨(wrap64 (x3_1 + 1)),(by first|rfl|(simp;done)|(simp [*];done)),H',⟨by have:=HK1.out;have:=HJ15.out;omega⟩,⟨by (with_reducible repeat (first|apply bN|apply bD|apply bA));exact BK573.out⟩,⟨by repeat (first|(with_reducible first|exact HB.out|apply lA|apply lN|apply lD|refine lS ?_ GE573.out|refine lS ?_ GE580.out|refine lS ?_ GE581.out)|exact HB.out)⟩⟩
                  ·replace c33:=Bool.eq_false_iff.mpr c33
                   subst c33
                   have H1 : (none) = some r:=by rw [if_neg (show ¬ (false = true) by decide)] at H;exact H
                   clear H
                   have H:=H1
                   clear H1
                   exact absurd H (by simp)
                 ·rw [if_neg c31] at H
                  exact absurd H (by simp)
                ·rw [if_neg c30] at H
                 exact absurd H (by simp)
               ·rw [if_neg c29] at H
                exact absurd H (by simp)
              ·rw [if_neg c28] at H
               exact absurd H (by simp)
            ·rw [if_neg c25] at H
             exact absurd H (by simp)
           ·rw [if_neg c24] at H
            exact absurd H (by simp)
       ·rw [if_neg c15] at H
        have c15b0 : (t577 == 0) = false:=beq_eq_false_iff_ne.mpr c15
        have c15b1 : (t577 != 0) = true:=bne_iff_ne.mpr c15
        obtain rfl:=Option.some.inj H
        have hcz50_0 : wr.cell? ⟨gb573,0,none⟩ = some (.string a0_0):=(blk_cell BK573.out 0).trans rfl
        have hcz50_1 : wr.cell? ⟨gb573,1,none⟩ = some (.slice A0_1 l0_1.length c0_1):=(blk_cell BK573.out 1).trans rfl
        have hfz50_0:=blk_frozen BK573.out 0
        have hfz50_1:=blk_frozen BK573.out 1
        go_wp2_with (first|((with_reducible refine gate_callee (f:=27) rfl ?_);refine goesL_ (some 21) rfl rfl Try.func27 (by kernel_rfl) rfl #[.agg #[.string a0_0,.slice A0_1 l0_1.length c0_1],.int .i64 x3_1] rfl (by (try simp only [mT,mC,mN]);first|done|rfl|(simp only [lDr,lTk];rfl)) ?_;(with_reducible refine (profile_Undercut.calls k1 a0_0 _ _ l0_1 x3_1 t576 t577 _ ?side1 ?side2 A11.out).mono ?_);(case side1=>repeat (first|exact (kB HR0_1.out HB.out)|(with_reducible first|apply kA|apply kN|apply kD)));(case side2=>exact HC0_1.out);rintro e w51 ⟨rfl,hb⟩;refine ⟨_,rfl, ?_⟩;have n0_:=am (blk_below (g:=gb573) (o:=.cells #[.string a0_0,.slice A0_1 l0_1.length c0_1] 25 (0,0)) (by (with_reducible repeat (first|apply bN|apply bD|apply bA));exact BK573.out) hb);have n1_:=am (below_step (by repeat (first|(with_reducible first|exact HB.out|apply lA|apply lN|apply lD|refine lS ?_ GE573.out)|exact HB.out)) hb);clear BK573;clear HB;have BK573:=n0_;have HB:=n1_;clear n0_ n1_;(try clear hb);(try clear hb2);(try clear hk);(try clear hi)))
        go_ret
        exact ⟨by first|rfl|(simp [errW_none,errW_some] <;> rfl)|(simp [*,errW_none,errW_some] <;> rfl),by repeat (first|(with_reducible first|exact HB.out|apply lA|apply lN|apply lD|refine lS ?_ GE573.out)|exact HB.out)⟩
     ·rw [if_neg c10] at H
      have c10b0 : decide (x3_1 < 4) = false:=decide_eq_false c10
      clear c10
      obtain rfl:=Option.some.inj H
      go_wp2
      go_ret
      exact ⟨by first|rfl|(simp [errW_none,errW_some] <;> rfl)|(simp [*,errW_none,errW_some] <;> rfl),by repeat (first|(with_reducible first|exact HB.out|apply lA|apply lN|apply lD|refine lS ?_ GE573.out)|exact HB.out)⟩
  ·replace c5:=Bool.eq_false_iff.mpr c5
   subst c5
   have H1 : (some true) = some r:=by rw [if_neg (show ¬ (false = true) by decide)] at H;exact H
   clear H
   have H:=H1
   clear H1
   obtain rfl:=Option.some.inj H
   go_enter Try.func8,Try.ntmps8
   go_wp2_with (first|((with_reducible refine gate_dst (N:=1) rfl ?_);(try (refine gate_guard (by rfl) ?_;dsimp only));refine box_event ?hg (N:=1) ?hd (cs:=#[.string a0_0,.slice A0_1 l0_1.length c0_1]) (t:=25) ?hr ?_;(case hd=>rfl);(case hg=>rfl);(case hr=>first|(go_simp;done)|(go_simp;rfl));intro gb573 hg w52 hbox hb;have n0_:=am (below_step (by repeat (first|(with_reducible first|exact HB.out|apply lA|apply lN|apply lD)|exact HB.out)) hb);have n1_:=am (hbox);have n2_:=am ((by rw [hg];exact (below_size (by repeat (first|(with_reducible first|exact HB.out|apply lA|apply lN|apply lD)|exact HB.out))) : w.heap.size ≤ gb573));have n3_:=am ((by rw [hg];exact (below_size (by repeat (first|(with_reducible first|exact HB.out|apply lA|apply lN|apply lD)|exact HB.out))) : w.heap.size ≤ gb573));clear HB;have HB:=n0_;have BK573:=n1_;have GW573:=n2_;have GE573:=n3_;clear n0_ n1_ n2_ n3_;clear hb hbox hg)|((with_reducible refine gate_callee (f:=11) rfl ?_);refine goesL_ (some 9) rfl rfl Try.func11 (by kernel_rfl) rfl #[] rfl (by (try simp only [mT,mC,mN]);first|done|rfl|(simp only [lDr,lTk];rfl)) ?_;(with_reducible refine (gangsawlaw39_awake.calls k  true _ A2.out).mono ?_);rintro e w53 ⟨rfl,hb⟩;refine ⟨_,rfl, ?_⟩;have n0_:=am (blk_below (g:=gb573) (o:=.cells #[.string a0_0,.slice A0_1 l0_1.length c0_1] 25 (0,0)) (by (with_reducible repeat (first|apply bN|apply bD|apply bA));exact BK573.out) hb);have n1_:=am (below_step (by repeat (first|(with_reducible first|exact HB.out|apply lA|apply lN|apply lD|refine lS ?_ GE573.out)|exact HB.out)) hb);clear BK573;clear HB;have BK573:=n0_;have HB:=n1_;clear n0_ n1_;(try clear hb);(try clear hb2);(try clear hk);(try clear hi);have hcz54_0 : w53.cell? ⟨gb573,0,none⟩ = some (.string a0_0):=(blk_cell BK573.out 0).trans rfl;have hcz54_1 : w53.cell? ⟨gb573,1,none⟩ = some (.slice A0_1 l0_1.length c0_1):=(blk_cell BK573.out 1).trans rfl;have hfz54_0:=blk_frozen BK573.out 0;have hfz54_1:=blk_frozen BK573.out 1)|((with_reducible refine gate_callee (f:=12) rfl ?_);refine goesL_ (some 12) rfl rfl Try.func12 (by kernel_rfl) rfl #[.agg #[.string a0_0,.slice A0_1 l0_1.length c0_1]] rfl (by (try simp only [mT,mC,mN]);first|done|rfl|(simp only [lDr,lTk];rfl)) ?_;(with_reducible refine (gangsawref39_Short.calls a0_0 _ _ l0_1 false _ ?side1 ?side2 A4.out).mono ?_);(case side1=>repeat (first|exact (kB HR0_1.out HB.out)|(with_reducible first|apply kA|apply kN|apply kD)));(case side2=>exact HC0_1.out);rintro e w55 ⟨rfl,hb⟩;refine ⟨_,rfl, ?_⟩;have n0_:=am (blk_below (g:=gb573) (o:=.cells #[.string a0_0,.slice A0_1 l0_1.length c0_1] 25 (0,0)) (by (with_reducible repeat (first|apply bN|apply bD|apply bA));exact BK573.out) hb);have n1_:=am (below_step (by repeat (first|(with_reducible first|exact HB.out|apply lA|apply lN|apply lD|refine lS ?_ GE573.out)|exact HB.out)) hb);clear BK573;clear HB;have BK573:=n0_;have HB:=n1_;clear n0_ n1_;(try clear hb);(try clear hb2);(try clear hk);(try clear hi)))
   go_ret
   exact ⟨by first|rfl|(simp [errW_none,errW_some] <;> rfl)|(simp [*,errW_none,errW_some] <;> rfl),by repeat (first|(with_reducible first|exact HB.out|apply lA|apply lN|apply lD|refine lS ?_ GE573.out)|exact HB.out)⟩
 ·replace c3:=Bool.eq_false_iff.mpr c3
  subst c3
  have H1 : (none) = some r:=by rw [if_neg (show ¬ (false = true) by decide)] at H;exact H
  clear H
  have H:=H1
  clear H1
  exact absurd H (by simp)

end
end Go.Proofs.Ytnjikioimompnaa.PA
