import Derived.Test.YtnjikioimompnaaPAx14
import Derived.Test.YtnjikioimompnaaPAx18
import Derived.Test.YtnjikioimompnaaPAx8
namespace Go.Proofs.Ytnjikioimompnaa.PA
open Go.RowKit Go.Proofs.YtnjikioimompnaaW.PrintWords Go.Proofs.YtnjikioimompnaaW.PrintLast Go.Proofs.YtnjikioimompnaaW.PrintMore
attribute [local go_sem] max2_int min2_int max_two min_two max_three min_three max_four min_four
set_option linter.unusedVariables false
set_option linter.unusedSimpArgs false
noncomputable section
mutual
def gangsawlaw39_ProfileUndercuts.l0 : Nat → Int → Int → Int → List Int → Int → Int → Int → ByteArray → List (S31) → Option (Bool)
 | 0,_,_,_,_,_,_,_,_,_=>none
 | k + 1,x1,x5,x6,x7,x8,x10,x11,x487000,x487001=>if x11 < 4 then ((gangsawref39_Undercut.f k x487001 x11).bind fun t496=>(if t496 ≥ 0 then (gangsawlaw39_ProfileUndercuts.l0 k x1 x5 x6 x7 x8 x10 (wrap64 (x11 + 1)) x487000 x487001) else (if x10 ≥ (x7.length : Int) then (none) else (if 0 ≤ x10 then (if x10 < (x7.length : Int) then (if (rd x7 x10) = x11 then (gangsawlaw39_ProfileUndercuts.l0 k x1 x5 x6 x7 x8 (wrap64 (x10 + 1)) (wrap64 (x11 + 1)) x487000 x487001) else (none)) else (none)) else (none))))) else (if x8 = 0 then (gangsawlaw39_ProfileUndercuts.j1 k x1 x5 x6 (x10 != (x7.length : Int)) x487000 x487001) else (gangsawlaw39_ProfileUndercuts.j1 k x1 x5 x6 true x487000 x487001))
def gangsawlaw39_ProfileUndercuts.j1 : Nat → Int → Int → Int → Bool → ByteArray → List (S31) → Option (Bool)
 | 0,_,_,_,_,_,_=>none
 | k + 1,x1,x5,x6,x80,x487000,x487001=>if x80 = true then (none) else (if x1 < 0 then (gangsawlaw39_ProfileUndercuts.j2 k x1 x5 x6 true x487000 x487001) else (gangsawlaw39_ProfileUndercuts.j2 k x1 x5 x6 (decide (x1 > 3)) x487000 x487001))
def gangsawlaw39_ProfileUndercuts.j2 : Nat → Int → Int → Int → Bool → ByteArray → List (S31) → Option (Bool)
 | 0,_,_,_,_,_,_=>none
 | k + 1,x1,x5,x6,x86,x487000,x487001=>if x86 = true then (if x6 = 6 then (some (x5 == 0)) else (none)) else ((gangsawref39_Undercut.f k x487001 x1).bind fun t498=>(if t498 < 0 then (if x6 = 9 then (some (x5 == 0)) else (none)) else (if x6 = 0 then (some (x5 == t498)) else (none))))
end
def gangsawlaw39_ProfileUndercuts.f (k : Nat) (a0_0 : ByteArray) (l0_1 : List (S31)) (a1 : Int) : Option (Bool):=(gangsawlaw39_awake.f k).bind fun t487=>(if t487 = true then ((gangsawref39_Short.f a0_0 l0_1).bind fun t488=>(if t488 = true then ((profile_Undercut.f k a0_0 l0_1 a1).bind fun bt489=>((profile_Directions.f k a0_0 l0_1).bind fun bt491=>((gangsawref39_Check.f k a0_0 l0_1).bind fun t495=>(if t495 = 0 then (gangsawlaw39_ProfileUndercuts.l0 k a1 bt489.1 bt489.2 bt491.1 bt491.2 0 0 a0_0 l0_1) else (if bt489.2 = t495 then (if bt491.2 = t495 then (if bt489.1 = 0 then (some ((bt491.1.length : Int) == 0)) else (none)) else (none)) else (none)))))) else (some true))) else (none))
set_option maxHeartbeats 8000000 in
set_option maxRecDepth 100000 in
theorem gangsawlaw39_ProfileUndercuts.calls (k : Nat) (a0_0 : ByteArray) (A0_1 : Option Addr) (c0_1 : Nat) (l0_1 : List (S31)) (a1 : Int) (r : Bool) (w : World) (hr0_1 : Kd.C k31 w A0_1 l0_1.length l0_1) (hc0_1 : l0_1.length ≤ c0_1) (h : gangsawlaw39_ProfileUndercuts.f k a0_0 l0_1 a1 = some r) :
  Calls Try.prog 5 #[.agg #[.string a0_0,.slice A0_1 l0_1.length c0_1],.int .i64 a1] w fun e w'=>e = .returned (.bool r) ∧ Below w.heap.size w w':=by
 have hu25:=Try.underlying25;have HR0_1:=am hr0_1;have HC0_1:=am hc0_1;clear hr0_1 hc0_1;have HB:=am (Below.refl w.heap.size w);have H : ((gangsawlaw39_awake.f k).bind fun t487=>(if t487 = true then ((gangsawref39_Short.f a0_0 l0_1).bind fun t488=>(if t488 = true then ((profile_Undercut.f k a0_0 l0_1 a1).bind fun bt489=>((profile_Directions.f k a0_0 l0_1).bind fun bt491=>((gangsawref39_Check.f k a0_0 l0_1).bind fun t495=>(if t495 = 0 then (gangsawlaw39_ProfileUndercuts.l0 k a1 bt489.1 bt489.2 bt491.1 bt491.2 0 0 a0_0 l0_1) else (if bt489.2 = t495 then (if bt491.2 = t495 then (if bt489.1 = 0 then (some ((bt491.1.length : Int) == 0)) else (none)) else (none)) else (none)))))) else (some true))) else (none))) = some r:=h;clear h;replace H:=Option.bind_eq_some_iff.mp H;obtain ⟨t487,A30,H⟩ := H;replace H : (if t487 = true then ((gangsawref39_Short.f a0_0 l0_1).bind fun t488=>(if t488 = true then ((profile_Undercut.f k a0_0 l0_1 a1).bind fun bt489=>((profile_Directions.f k a0_0 l0_1).bind fun bt491=>((gangsawref39_Check.f k a0_0 l0_1).bind fun t495=>(if t495 = 0 then (gangsawlaw39_ProfileUndercuts.l0 k a1 bt489.1 bt489.2 bt491.1 bt491.2 0 0 a0_0 l0_1) else (if bt489.2 = t495 then (if bt491.2 = t495 then (if bt489.1 = 0 then (some ((bt491.1.length : Int) == 0)) else (none)) else (none)) else (none)))))) else (some true))) else (none)) = some r:=H;have A3:=am A30;clear A30;by_cases c4 : t487 = true
 ·subst c4
  have H1 : ((gangsawref39_Short.f a0_0 l0_1).bind fun t488=>(if t488 = true then ((profile_Undercut.f k a0_0 l0_1 a1).bind fun bt489=>((profile_Directions.f k a0_0 l0_1).bind fun bt491=>((gangsawref39_Check.f k a0_0 l0_1).bind fun t495=>(if t495 = 0 then (gangsawlaw39_ProfileUndercuts.l0 k a1 bt489.1 bt489.2 bt491.1 bt491.2 0 0 a0_0 l0_1) else (if bt489.2 = t495 then (if bt491.2 = t495 then (if bt489.1 = 0 then (some ((bt491.1.length : Int) == 0)) else (none)) else (none)) else (none)))))) else (some true))) = some r:=by rw [if_pos rfl] at H;exact H
  clear H;have H:=H1;clear H1;replace H:=Option.bind_eq_some_iff.mp H;obtain ⟨t488,A50,H⟩ := H;replace H : (if t488 = true then ((profile_Undercut.f k a0_0 l0_1 a1).bind fun bt489=>((profile_Directions.f k a0_0 l0_1).bind fun bt491=>((gangsawref39_Check.f k a0_0 l0_1).bind fun t495=>(if t495 = 0 then (gangsawlaw39_ProfileUndercuts.l0 k a1 bt489.1 bt489.2 bt491.1 bt491.2 0 0 a0_0 l0_1) else (if bt489.2 = t495 then (if bt491.2 = t495 then (if bt489.1 = 0 then (some ((bt491.1.length : Int) == 0)) else (none)) else (none)) else (none)))))) else (some true)) = some r:=H;have A5:=am A50;clear A50;by_cases c6 : t488 = true
  ·subst c6
   have H1 : ((profile_Undercut.f k a0_0 l0_1 a1).bind fun bt489=>((profile_Directions.f k a0_0 l0_1).bind fun bt491=>((gangsawref39_Check.f k a0_0 l0_1).bind fun t495=>(if t495 = 0 then (gangsawlaw39_ProfileUndercuts.l0 k a1 bt489.1 bt489.2 bt491.1 bt491.2 0 0 a0_0 l0_1) else (if bt489.2 = t495 then (if bt491.2 = t495 then (if bt489.1 = 0 then (some ((bt491.1.length : Int) == 0)) else (none)) else (none)) else (none)))))) = some r:=by rw [if_pos rfl] at H;exact H
   clear H;have H:=H1;clear H1;replace H:=Option.bind_eq_some_iff.mp H;obtain ⟨⟨t489,t490⟩,A70,H⟩ := H;replace H : ((profile_Directions.f k a0_0 l0_1).bind fun bt491=>((gangsawref39_Check.f k a0_0 l0_1).bind fun t495=>(if t495 = 0 then (gangsawlaw39_ProfileUndercuts.l0 k a1 t489 t490 bt491.1 bt491.2 0 0 a0_0 l0_1) else (if t490 = t495 then (if bt491.2 = t495 then (if t489 = 0 then (some ((bt491.1.length : Int) == 0)) else (none)) else (none)) else (none))))) = some r:=H;have A7:=am A70;clear A70;replace H:=Option.bind_eq_some_iff.mp H;obtain ⟨⟨t491,t494⟩,A80,H⟩ := H;replace H : ((gangsawref39_Check.f k a0_0 l0_1).bind fun t495=>(if t495 = 0 then (gangsawlaw39_ProfileUndercuts.l0 k a1 t489 t490 t491 t494 0 0 a0_0 l0_1) else (if t490 = t495 then (if t494 = t495 then (if t489 = 0 then (some ((t491.length : Int) == 0)) else (none)) else (none)) else (none)))) = some r:=H;have A8:=am A80;clear A80;replace H:=Option.bind_eq_some_iff.mp H;obtain ⟨t495,A90,H⟩ := H;replace H : (if t495 = 0 then (gangsawlaw39_ProfileUndercuts.l0 k a1 t489 t490 t491 t494 0 0 a0_0 l0_1) else (if t490 = t495 then (if t494 = t495 then (if t489 = 0 then (some ((t491.length : Int) == 0)) else (none)) else (none)) else (none))) = some r:=H;have A9:=am A90;clear A90;by_cases c10 : t495 = 0
   ·rw [if_pos c10] at H;have c10b0 : (t495 == 0) = true:=beq_iff_eq.mpr c10;have c10b1 : (t495 != 0) = false:=bne_eq_false_iff_eq.mpr c10;clear c10;have H':=am H;clear H
    go_enter Try.func5,Try.ntmps5
    go_wp2_with (first|((with_reducible refine gate_dst (N:=2) rfl ?_);(try (refine gate_guard (by rfl) ?_;dsimp only));refine box_event ?hg (N:=2) ?hd (cs:=#[.string a0_0,.slice A0_1 l0_1.length c0_1]) (t:=25) ?hr ?_;(case hd=>rfl);(case hg=>rfl);(case hr=>first|(go_simp;done)|(go_simp;rfl));intro gb486 hg w11 hbox hb;have BK486:=am hbox;have GW486:=bza HB hg;have GE486:=bza HB hg;replace HB:=bsa HB hb;clear hb hbox hg)|((with_reducible refine gate_callee (f:=11) rfl ?_);refine goesL_ (some 13) rfl rfl Try.func11 (by kernel_rfl) rfl #[] rfl (by (try simp only [mT,mC,mN]);first|done|rfl|(simp only [lDr,lTk];rfl)) ?_;(with_reducible refine (gangsawlaw39_awake.calls k  true _ A3.out).mono ?_);rintro e w12 ⟨rfl,hb⟩;refine ⟨_,rfl, ?_⟩;replace BK486:=bba BK486 hb;replace HB:=bsa HB hb;(try clear hb);(try clear hb2);(try clear hk);(try clear hi);obtain ⟨hcz13_0,hcz13_1,hfz13_0,hfz13_1⟩ := c2_ BK486.out)|((with_reducible refine gate_callee (f:=12) rfl ?_);refine goesL_ (some 16) rfl rfl Try.func12 (by kernel_rfl) rfl #[.agg #[.string a0_0,.slice A0_1 l0_1.length c0_1]] rfl (by (try simp only [mT,mC,mN]);first|done|rfl|(simp only [lDr,lTk];rfl)) ?_;(with_reducible refine (gangsawref39_Short.calls a0_0 _ _ l0_1 true _ ?side1 ?side2 A5.out).mono ?_);(case side1=>exact cq HR0_1.out HB.out);(case side2=>exact HC0_1.out);rintro e w14 ⟨rfl,hb⟩;refine ⟨_,rfl, ?_⟩;replace BK486:=bba BK486 hb;replace HB:=bsa HB hb;(try clear hb);(try clear hb2);(try clear hk);(try clear hi);obtain ⟨hcz15_0,hcz15_1,hfz15_0,hfz15_1⟩ := c2_ BK486.out)|((with_reducible refine gate_callee (f:=27) rfl ?_);refine goesL_ (some 21) rfl rfl Try.func27 (by kernel_rfl) rfl #[.agg #[.string a0_0,.slice A0_1 l0_1.length c0_1],.int .i64 a1] rfl (by (try simp only [mT,mC,mN]);first|done|rfl|(simp only [lDr,lTk];rfl)) ?_;(with_reducible refine (profile_Undercut.calls k a0_0 _ _ l0_1 a1 t489 t490 _ ?side1 ?side2 A7.out).mono ?_);(case side1=>exact cq HR0_1.out HB.out);(case side2=>exact HC0_1.out);rintro e w16 ⟨rfl,hb⟩;refine ⟨_,rfl, ?_⟩;replace BK486:=bba BK486 hb;replace HB:=bsa HB hb;(try clear hb);(try clear hb2);(try clear hk);(try clear hi);obtain ⟨hcz17_0,hcz17_1,hfz17_0,hfz17_1⟩ := c2_ BK486.out)|((with_reducible refine gate_callee (f:=28) rfl ?_);refine goesL_ (some 26) rfl rfl Try.func28 (by kernel_rfl) rfl #[.agg #[.string a0_0,.slice A0_1 l0_1.length c0_1]] rfl (by (try simp only [mT,mC,mN]);first|done|rfl|(simp only [lDr,lTk];rfl)) ?_;(with_reducible refine (profile_Directions.calls k a0_0 _ _ l0_1 t491 t494 _ ?side1 ?side2 A8.out).mono ?_);(case side1=>exact cq HR0_1.out HB.out);(case side2=>exact HC0_1.out);rintro e w18 ⟨v492,rfl,ho0,hb⟩;refine ⟨_,rfl, ?_⟩;have HO493:=am (Kd.R_lower ho0 (below_size (by repeat (first|(with_reducible first|exact HB.out|apply lA|apply lN|apply lD|refine lS ?_ GE486.out)|exact HB.out))));replace BK486:=bba BK486 hb;replace HB:=bsa HB hb;(try clear hb);(try clear hb2);(try clear hk);(try clear hi);(try clear ho0);obtain ⟨hcz19_0,hcz19_1,hfz19_0,hfz19_1⟩ := c2_ BK486.out)|((with_reducible refine gate_callee (f:=13) rfl ?_);refine goesL_ (some 30) rfl rfl Try.func13 (by kernel_rfl) rfl #[.agg #[.string a0_0,.slice A0_1 l0_1.length c0_1]] rfl (by (try simp only [mT,mC,mN]);first|done|rfl|(simp only [lDr,lTk];rfl)) ?_;(with_reducible refine (gangsawref39_Check.calls k a0_0 _ _ l0_1 t495 _ ?side1 ?side2 A9.out).mono ?_);(case side1=>exact cq HR0_1.out HB.out);(case side2=>exact HC0_1.out);rintro e w20 ⟨rfl,hb⟩;refine ⟨_,rfl, ?_⟩;replace HO493:=rba HO493 hb;replace BK486:=bba BK486 hb;replace HB:=bsa HB hb;(try clear hb);(try clear hb2);(try clear hk);(try clear hi)))
    go_loopg [10,11] k (fun kq v10 v11 w'=>∃ (x10_1 : Int) (x11_1 : Int),v10 = .int .i64 x10_1 ∧ v11 = .int .i64 x11_1 ∧ Aside0 (gangsawlaw39_ProfileUndercuts.l0 kq a1 t489 t490 t491 t494 x10_1 x11_1 a0_0 l0_1 = some r) ∧ Aside0 (kq ≤ k) ∧ Aside0 (Kd.R (Kd.int .i64) 3 w' w.heap.size (fun _=>True) v492 t491) ∧ Aside0 (w'.heap[gb486]? = some (.cells #[.string a0_0,(.slice A0_1 l0_1.length c0_1)] 25 (0,0))) ∧ Aside0 (Below w.heap.size w w'))
    case atStart=>exact ⟨(0),(0),(by first|rfl|(simp;done)|(simp [*];done)),(by first|rfl|(simp;done)|(simp [*];done)),H',⟨Nat.le_refl _⟩,⟨rq HO493.out⟩,⟨bq BK486.out⟩,⟨by repeat (first|(with_reducible first|exact HB.out|apply lA|apply lN|apply lD|refine lS ?_ GE486.out)|exact HB.out)⟩⟩
    case round =>
     clear H'
     try clear c1
     try clear c2
     try clear p2
     try clear c4
     try clear c5
     try clear c6
     try clear c10
     try clear c10b0
     try clear c10b1
     try clear c11
     try clear c12
     try clear c13
     try clear hcz13_0
     try clear hcz13_1
     try clear hcz15_0
     try clear hcz15_1
     try clear hcz17_0
     try clear hcz17_1
     try clear hcz19_0
     try clear hcz19_1
     try clear hfz13_0
     try clear hfz13_1
     try clear hfz15_0
     try clear hfz15_1
     try clear hfz17_0
     try clear hfz17_1
     try clear hfz19_0
     try clear hfz19_1
     obtain ⟨x10_1,x11_1,rfl,rfl,HA,HK1,HO_7,BK486,HB⟩ := hrel
     cases gk with
     | zero=>exact absurd HA.out (by simp [gangsawlaw39_ProfileUndercuts.l0])
     | succ k1 =>
      have H:=HA.out;clear HA;simp only [gangsawlaw39_ProfileUndercuts.l0] at H;by_cases c21 : x11_1 < 4
      ·rw [if_pos c21] at H;have c21b0 : decide (x11_1 < 4) = true:=decide_eq_true c21;clear c21;replace H:=Option.bind_eq_some_iff.mp H;obtain ⟨t496,A220,H⟩ := H;replace H : (if t496 ≥ 0 then (gangsawlaw39_ProfileUndercuts.l0 k1 a1 t489 t490 t491 t494 x10_1 (wrap64 (x11_1 + 1)) a0_0 l0_1) else (if x10_1 ≥ (t491.length : Int) then (none) else (if 0 ≤ x10_1 then (if x10_1 < (t491.length : Int) then (if (rd t491 x10_1) = x11_1 then (gangsawlaw39_ProfileUndercuts.l0 k1 a1 t489 t490 t491 t494 (wrap64 (x10_1 + 1)) (wrap64 (x11_1 + 1)) a0_0 l0_1) else (none)) else (none)) else (none)))) = some r:=H;have A22:=am A220;clear A220;by_cases c23 : t496 ≥ 0
       ·rw [if_pos c23] at H;have c23b0 : decide (0 ≤ t496) = true:=decide_eq_true c23;clear c23;have H':=am H;clear H;obtain ⟨hcz24_0,hcz24_1,hfz24_0,hfz24_1⟩ := c2_ BK486.out
        go_wp2_with (first|((with_reducible refine gate_callee (f:=29) rfl ?_);refine goesL_ (some 57) rfl rfl Try.func29 (by kernel_rfl) rfl #[.slice A0_1 l0_1.length c0_1,.int .i64 x11_1] rfl (by (try simp only [mT,mC,mN]);first|done|rfl|(simp only [lDr,lTk];rfl)) ?_;(with_reducible refine (gangsawref39_Undercut.calls k1 _ _ l0_1 x11_1 t496 _ ?side1 ?side2 A22.out).mono ?_);(case side1=>exact cq HR0_1.out HB.out);(case side2=>exact HC0_1.out);rintro e w25 ⟨rfl,hb⟩;refine ⟨_,rfl, ?_⟩;replace HO_7:=rba HO_7 hb;replace BK486:=bba BK486 hb;replace HB:=bsa HB hb;(try clear hb);(try clear hb2);(try clear hk);(try clear hi)))
        go_roundg k1
        case measure=>have:=HK1.out;omega
        case rel=>exact ⟨(x10_1),(wrap64 (x11_1 + 1)),(by first|rfl|(simp;done)|(simp [*];done)),(by first|rfl|(simp;done)|(simp [*];done)),H',⟨by have:=HK1.out;omega⟩,⟨rq HO_7.out⟩,⟨bq BK486.out⟩,⟨by repeat (first|(with_reducible first|exact HB.out|apply lA|apply lN|apply lD|refine lS ?_ GE486.out)|exact HB.out)⟩⟩
       ·rw [if_neg c23] at H;have c23b0 : decide (0 ≤ t496) = false:=decide_eq_false c23;clear c23;by_cases c26 : x10_1 ≥ (t491.length : Int)
        (rw [if_pos c26] at H;exact absurd H (by simp))
        ·rw [if_neg c26] at H;have c26b0 : decide ((t491.length : Int) ≤ x10_1) = false:=decide_eq_false c26;clear c26;by_cases c27 : 0 ≤ x10_1
         ·rw [if_pos c27] at H;have c27b0 : decide (0 ≤ x10_1) = true:=decide_eq_true c27;clear c27;by_cases c28 : x10_1 < (t491.length : Int)
          ·rw [if_pos c28] at H;have c28b0 : decide (x10_1 < (t491.length : Int)) = true:=decide_eq_true c28;clear c28;by_cases c29 : (rd t491 x10_1) = x11_1
           ·rw [if_pos c29] at H;have c29b0 : ((rd t491 x10_1) == x11_1) = true:=beq_iff_eq.mpr c29;have c29b1 : ((rd t491 x10_1) != x11_1) = false:=bne_eq_false_iff_eq.mpr c29;clear c29;have H':=am H;clear H;obtain ⟨hcz30_0,hcz30_1,hfz30_0,hfz30_1⟩ := c2_ BK486.out
            go_wp2_with (first|((with_reducible refine gate_callee (f:=29) rfl ?_);refine goesL_ (some 57) rfl rfl Try.func29 (by kernel_rfl) rfl #[.slice A0_1 l0_1.length c0_1,.int .i64 x11_1] rfl (by (try simp only [mT,mC,mN]);first|done|rfl|(simp only [lDr,lTk];rfl)) ?_;(with_reducible refine (gangsawref39_Undercut.calls k1 _ _ l0_1 x11_1 t496 _ ?side1 ?side2 A22.out).mono ?_);(case side1=>exact cq HR0_1.out HB.out);(case side2=>exact HC0_1.out);rintro e w31 ⟨rfl,hb⟩;refine ⟨_,rfl, ?_⟩;replace HO_7:=rba HO_7 hb;replace BK486:=bba BK486 hb;replace HB:=bsa HB hb;(try clear hb);(try clear hb2);(try clear hk);(try clear hi);obtain ⟨Ao32,co32,eo32⟩ := Kd.R_slice HO_7.out;subst eo32;have p497 : 0 ≤ (x10_1 : Int):=of_decide_eq_true (by first|(with_reducible assumption)|assumption);have q497 : x10_1 < (t491.length : Int):=of_decide_eq_true (by first|(with_reducible assumption)|assumption);obtain ⟨ad497,e497,hx497_0⟩ := Kd.at_int (Kd.R_reads' HO_7.out).2.2 x10_1 p497 q497;cases e497;replace p497:=eq_true p497;replace q497:=eq_true q497))
            go_roundg k1
            case measure=>have:=HK1.out;omega
            case rel=>exact ⟨(wrap64 (x10_1 + 1)),(wrap64 (x11_1 + 1)),(by first|rfl|(simp;done)|(simp [*];done)),(by first|rfl|(simp;done)|(simp [*];done)),H',⟨by have:=HK1.out;omega⟩,⟨rq HO_7.out⟩,⟨bq BK486.out⟩,⟨by repeat (first|(with_reducible first|exact HB.out|apply lA|apply lN|apply lD|refine lS ?_ GE486.out)|exact HB.out)⟩⟩
           (rw [if_neg c29] at H;exact absurd H (by simp))
          (rw [if_neg c28] at H;exact absurd H (by simp))
         (rw [if_neg c27] at H;exact absurd H (by simp))
      ·rw [if_neg c21] at H;have c21b0 : decide (x11_1 < 4) = false:=decide_eq_false c21;clear c21;have HC33:=am H;clear H
       go_upto_region 18 with (fail)
       go_cut [80] (fun v80 wc=>∃ (kq : Nat) (x80_32 : Bool),v80 = .bool x80_32 ∧ Aside0 (gangsawlaw39_ProfileUndercuts.j1 kq a1 t489 t490 x80_32 a0_0 l0_1 = some r) ∧ Aside0 (kq ≤ k1) ∧ Aside0 (wc.heap[gb486]? = some (.cells #[.string a0_0,(.slice A0_1 l0_1.length c0_1)] 25 (0,0))) ∧ Aside0 (Below w.heap.size w wc))
       case first =>
        have H:=HC33.out;clear HC33;by_cases c34 : t494 = 0
        ·rw [if_pos c34] at H;have c34b0 : (t494 == 0) = true:=beq_iff_eq.mpr c34;have c34b1 : (t494 != 0) = false:=bne_eq_false_iff_eq.mpr c34;clear c34;(first|rw [c34b0]|(simp only [i64_w,i32_w];rw [c34b0])|skip);have H':=am H;clear H;obtain ⟨Ao35,co35,eo35⟩ := Kd.R_slice HO_7.out;subst eo35
         go_wp2
         go_meet
         case rel=>exact ⟨_,((x10_1 != (t491.length : Int))),(by first|rfl|(simp;done)|(simp [*];done)),H',⟨by have:=HK1.out;first|omega|exact Nat.le_refl _⟩,⟨bq BK486.out⟩,⟨by repeat (first|(with_reducible first|exact HB.out|apply lA|apply lN|apply lD|refine lS ?_ GE486.out)|exact HB.out)⟩⟩
        ·rw [if_neg c34] at H;have c34b0 : (t494 == 0) = false:=beq_eq_false_iff_ne.mpr c34;have c34b1 : (t494 != 0) = true:=bne_iff_ne.mpr c34;(first|rw [c34b0]|(simp only [i64_w,i32_w];rw [c34b0])|skip);have H':=am H;clear H
         go_wp2
         go_meet
         case rel=>exact ⟨_,(true),(by first|rfl|(simp;done)|(simp [*];done)),H',⟨by have:=HK1.out;first|omega|exact Nat.le_refl _⟩,⟨bq BK486.out⟩,⟨by repeat (first|(with_reducible first|exact HB.out|apply lA|apply lN|apply lD|refine lS ?_ GE486.out)|exact HB.out)⟩⟩
       case rest =>
        clear HC33
        try clear c1
        try clear c2
        try clear p2
        try clear c3
        try clear c4
        try clear p4
        try clear q4
        try clear hx4
        try clear c5
        try clear c6
        try clear p6
        try clear c10
        try clear c10b0
        try clear c10b1
        try clear c11
        try clear c12
        try clear c13
        try clear c21
        try clear c21b0
        try clear c23
        try clear c23b0
        try clear c26
        try clear c26b0
        try clear c27
        try clear c27b0
        try clear c28
        try clear c28b0
        try clear c29
        try clear c29b0
        try clear c29b1
        try clear c34
        try clear c34b0
        try clear c34b1
        try clear hcz13_0
        try clear hcz13_1
        try clear hcz15_0
        try clear hcz15_1
        try clear hcz17_0
        try clear hcz17_1
        try clear hcz19_0
        try clear hcz19_1
        try clear hcz24_0
        try clear hcz24_1
        try clear hcz30_0
        try clear hcz30_1
        try clear hfz13_0
        try clear hfz13_1
        try clear hfz15_0
        try clear hfz15_1
        try clear hfz17_0
        try clear hfz17_1
        try clear hfz19_0
        try clear hfz19_1
        try clear hfz24_0
        try clear hfz24_1
        try clear hfz30_0
        try clear hfz30_1
        try clear hx497_0
        try clear p2
        try clear p497
        try clear q497
        obtain ⟨kq,x80_32,rfl,HA,HJ32,BK486,HB⟩ := hcut
        cases kq with
        | zero=>exact absurd HA.out (by simp [gangsawlaw39_ProfileUndercuts.j1])
        | succ kj32 =>
         have H:=HA.out;clear HA;simp only [gangsawlaw39_ProfileUndercuts.j1] at H;by_cases c36 : x80_32 = true
         ·subst c36
          have H1 : (none) = some r:=by rw [if_pos rfl] at H;exact H
          clear H;have H:=H1;clear H1;exact absurd H (by simp)
         ·replace c36:=Bool.eq_false_iff.mpr c36;subst c36
          have H1 : (if a1 < 0 then (gangsawlaw39_ProfileUndercuts.j2 kj32 a1 t489 t490 true a0_0 l0_1) else (gangsawlaw39_ProfileUndercuts.j2 kj32 a1 t489 t490 (decide (a1 > 3)) a0_0 l0_1)) = some r:=by rw [if_neg (show ¬ (false = true) by decide)] at H;exact H
          clear H;have H:=H1;clear H1;have HC37:=am H;clear H
          go_upto_region 20 with (fail)
          go_cut [86] (fun v86 wc=>∃ (kq : Nat) (x86_36 : Bool),v86 = .bool x86_36 ∧ Aside0 (gangsawlaw39_ProfileUndercuts.j2 kq a1 t489 t490 x86_36 a0_0 l0_1 = some r) ∧ Aside0 (kq ≤ kj32) ∧ Aside0 (wc.heap[gb486]? = some (.cells #[.string a0_0,(.slice A0_1 l0_1.length c0_1)] 25 (0,0))) ∧ Aside0 (Below w.heap.size w wc))
          case first =>
           have H:=HC37.out;clear HC37;by_cases c38 : a1 < 0
           ·rw [if_pos c38] at H;have c38b0 : decide (a1 < 0) = true:=decide_eq_true c38;clear c38;(first|rw [c38b0]|(simp only [i64_w,i32_w];rw [c38b0])|skip);have H':=am H;clear H
            go_wp2
            go_meet
            case rel=>exact ⟨_,(true),(by first|rfl|(simp;done)|(simp [*];done)),H',⟨by have:=HK1.out;have:=HJ32.out;first|omega|exact Nat.le_refl _⟩,⟨bq BK486.out⟩,⟨by repeat (first|(with_reducible first|exact HB.out|apply lA|apply lN|apply lD|refine lS ?_ GE486.out)|exact HB.out)⟩⟩
           ·rw [if_neg c38] at H;have c38b0 : decide (a1 < 0) = false:=decide_eq_false c38;clear c38;(first|rw [c38b0]|(simp only [i64_w,i32_w];rw [c38b0])|skip);have H':=am H;clear H
            go_wp2
            go_meet
            case rel=>exact ⟨_,(decide (a1 > 3)),(by first|rfl|(simp;done)|(simp [*];done)),H',⟨by have:=HK1.out;have:=HJ32.out;first|omega|exact Nat.le_refl _⟩,⟨bq BK486.out⟩,⟨by repeat (first|(with_reducible first|exact HB.out|apply lA|apply lN|apply lD|refine lS ?_ GE486.out)|exact HB.out)⟩⟩
          case rest =>
           clear HC37
           try clear c1
           try clear c2
           try clear p2
           try clear c3
           try clear c4
           try clear p4
           try clear q4
           try clear hx4
           try clear c5
           try clear c6
           try clear p6
           try clear c10
           try clear c10b0
           try clear c10b1
           try clear c11
           try clear c12
           try clear c13
           try clear c21
           try clear c21b0
           try clear c23
           try clear c23b0
           try clear c26
           try clear c26b0
           try clear c27
           try clear c27b0
           try clear c28
           try clear c28b0
           try clear c29
           try clear c29b0
           try clear c29b1
           try clear c34
           try clear c34b0
           try clear c34b1
           try clear c36
           try clear c38
           try clear c38b0
           try clear hcz13_0
           try clear hcz13_1
           try clear hcz15_0
           try clear hcz15_1
           try clear hcz17_0
           try clear hcz17_1
           try clear hcz19_0
           try clear hcz19_1
           try clear hcz24_0
           try clear hcz24_1
           try clear hcz30_0
           try clear hcz30_1
           try clear hfz13_0
           try clear hfz13_1
           try clear hfz15_0
           try clear hfz15_1
           try clear hfz17_0
           try clear hfz17_1
           try clear hfz19_0
           try clear hfz19_1
           try clear hfz24_0
           try clear hfz24_1
           try clear hfz30_0
           try clear hfz30_1
           try clear hx497_0
           try clear p2
           try clear p4
           try clear p497
           try clear p6
           try clear q4
           try clear q497
           obtain ⟨kq,x86_36,rfl,HA,HJ36,BK486,HB⟩ := hcut
           cases kq with
           | zero=>exact absurd HA.out (by simp [gangsawlaw39_ProfileUndercuts.j2])
           | succ kj36 =>
            have H:=HA.out;clear HA;simp only [gangsawlaw39_ProfileUndercuts.j2] at H;by_cases c39 : x86_36 = true
            ·subst c39
             have H1 : (if t490 = 6 then (some (t489 == 0)) else (none)) = some r:=by rw [if_pos rfl] at H;exact H
             clear H;have H:=H1;clear H1;by_cases c40 : t490 = 6
             ·rw [if_pos c40] at H;have c40b0 : (t490 == 6) = true:=beq_iff_eq.mpr c40;have c40b1 : (t490 != 6) = false:=bne_eq_false_iff_eq.mpr c40;clear c40;obtain rfl:=Option.some.inj H
              go_wp2
              go_ret
              exact ⟨by first|rfl|(simp [errW_none,errW_some] <;> rfl)|(simp [*,errW_none,errW_some] <;> rfl),by repeat (first|(with_reducible first|exact HB.out|apply lA|apply lN|apply lD|refine lS ?_ GE486.out)|exact HB.out)⟩
             (rw [if_neg c40] at H;exact absurd H (by simp))
            ·replace c39:=Bool.eq_false_iff.mpr c39;subst c39
             have H1 : ((gangsawref39_Undercut.f kj36 l0_1 a1).bind fun t498=>(if t498 < 0 then (if t490 = 9 then (some (t489 == 0)) else (none)) else (if t490 = 0 then (some (t489 == t498)) else (none)))) = some r:=by rw [if_neg (show ¬ (false = true) by decide)] at H;exact H
             clear H;have H:=H1;clear H1;replace H:=Option.bind_eq_some_iff.mp H;obtain ⟨t498,A410,H⟩ := H;replace H : (if t498 < 0 then (if t490 = 9 then (some (t489 == 0)) else (none)) else (if t490 = 0 then (some (t489 == t498)) else (none))) = some r:=H;have A41:=am A410;clear A410;by_cases c42 : t498 < 0
             ·rw [if_pos c42] at H;have c42b0 : decide (t498 < 0) = true:=decide_eq_true c42;clear c42;by_cases c43 : t490 = 9
              ·rw [if_pos c43] at H;have c43b0 : (t490 == 9) = true:=beq_iff_eq.mpr c43;have c43b1 : (t490 != 9) = false:=bne_eq_false_iff_eq.mpr c43;clear c43;obtain rfl:=Option.some.inj H;obtain ⟨hcz44_0,hcz44_1,hfz44_0,hfz44_1⟩ := c2_ BK486.out
               go_wp2_with (first|((with_reducible refine gate_callee (f:=29) rfl ?_);refine goesL_ (some 96) rfl rfl Try.func29 (by kernel_rfl) rfl #[.slice A0_1 l0_1.length c0_1,.int .i64 a1] rfl (by (try simp only [mT,mC,mN]);first|done|rfl|(simp only [lDr,lTk];rfl)) ?_;(with_reducible refine (gangsawref39_Undercut.calls kj36 _ _ l0_1 a1 t498 _ ?side1 ?side2 A41.out).mono ?_);(case side1=>exact cq HR0_1.out HB.out);(case side2=>exact HC0_1.out);rintro e w45 ⟨rfl,hb⟩;refine ⟨_,rfl, ?_⟩;replace BK486:=bba BK486 hb;replace HB:=bsa HB hb;(try clear hb);(try clear hb2);(try clear hk);(try clear hi)))
               go_ret
               exact ⟨by first|rfl|(simp [errW_none,errW_some] <;> rfl)|(simp [*,errW_none,errW_some] <;> rfl),by repeat (first|(with_reducible first|exact HB.out|apply lA|apply lN|apply lD|refine lS ?_ GE486.out)|exact HB.out)⟩
              (rw [if_neg c43] at H;exact absurd H (by simp))
             ·rw [if_neg c42] at H;have c42b0 : decide (t498 < 0) = false:=decide_eq_false c42;clear c42;by_cases c46 : t490 = 0
              ·rw [if_pos c46] at H;have c46b0 : (t490 == 0) = true:=beq_iff_eq.mpr c46;have c46b1 : (t490 != 0) = false:=bne_eq_false_iff_eq.mpr c46;clear c46;obtain rfl:=Option.some.inj H;obtain ⟨hcz47_0,hcz47_1,hfz47_0,hfz47_1⟩ := c2_ BK486.out
               go_wp2_with (first|((with_reducible refine gate_callee (f:=29) rfl ?_);refine goesL_ (some 96) rfl rfl Try.func29 (by kernel_rfl) rfl #[.slice A0_1 l0_1.length c0_1,.int .i64 a1] rfl (by (try simp only [mT,mC,mN]);first|done|rfl|(simp only [lDr,lTk];rfl)) ?_;(with_reducible refine (gangsawref39_Undercut.calls kj36 _ _ l0_1 a1 t498 _ ?side1 ?side2 A41.out).mono ?_);(case side1=>exact cq HR0_1.out HB.out);(case side2=>exact HC0_1.out);rintro e w48 ⟨rfl,hb⟩;refine ⟨_,rfl, ?_⟩;replace BK486:=bba BK486 hb;replace HB:=bsa HB hb;(try clear hb);(try clear hb2);(try clear hk);(try clear hi)))
               go_ret
               exact ⟨by first|rfl|(simp [errW_none,errW_some] <;> rfl)|(simp [*,errW_none,errW_some] <;> rfl),by repeat (first|(with_reducible first|exact HB.out|apply lA|apply lN|apply lD|refine lS ?_ GE486.out)|exact HB.out)⟩
              (rw [if_neg c46] at H;exact absurd H (by simp))
   ·rw [if_neg c10] at H;have c10b0 : (t495 == 0) = false:=beq_eq_false_iff_ne.mpr c10;have c10b1 : (t495 != 0) = true:=bne_iff_ne.mpr c10;by_cases c49 : t490 = t495
    ·rw [if_pos c49] at H;have c49b0 : (t490 == t495) = true:=beq_iff_eq.mpr c49;have c49b1 : (t490 != t495) = false:=bne_eq_false_iff_eq.mpr c49;clear c49;by_cases c50 : t494 = t495
     ·rw [if_pos c50] at H;have c50b0 : (t494 == t495) = true:=beq_iff_eq.mpr c50;have c50b1 : (t494 != t495) = false:=bne_eq_false_iff_eq.mpr c50;clear c50;by_cases c51 : t489 = 0
      ·rw [if_pos c51] at H;have c51b0 : (t489 == 0) = true:=beq_iff_eq.mpr c51;have c51b1 : (t489 != 0) = false:=bne_eq_false_iff_eq.mpr c51;clear c51;obtain rfl:=Option.some.inj H
       go_enter Try.func5,Try.ntmps5
       go_wp2_with (first|((with_reducible refine gate_dst (N:=2) rfl ?_);(try (refine gate_guard (by rfl) ?_;dsimp only));refine box_event ?hg (N:=2) ?hd (cs:=#[.string a0_0,.slice A0_1 l0_1.length c0_1]) (t:=25) ?hr ?_;(case hd=>rfl);(case hg=>rfl);(case hr=>first|(go_simp;done)|(go_simp;rfl));intro gb486 hg w52 hbox hb;have BK486:=am hbox;have GW486:=bza HB hg;have GE486:=bza HB hg;replace HB:=bsa HB hb;clear hb hbox hg)|((with_reducible refine gate_callee (f:=11) rfl ?_);refine goesL_ (some 13) rfl rfl Try.func11 (by kernel_rfl) rfl #[] rfl (by (try simp only [mT,mC,mN]);first|done|rfl|(simp only [lDr,lTk];rfl)) ?_;(with_reducible refine (gangsawlaw39_awake.calls k  true _ A3.out).mono ?_);rintro e w53 ⟨rfl,hb⟩;refine ⟨_,rfl, ?_⟩;replace BK486:=bba BK486 hb;replace HB:=bsa HB hb;(try clear hb);(try clear hb2);(try clear hk);(try clear hi);obtain ⟨hcz54_0,hcz54_1,hfz54_0,hfz54_1⟩ := c2_ BK486.out)|((with_reducible refine gate_callee (f:=12) rfl ?_);refine goesL_ (some 16) rfl rfl Try.func12 (by kernel_rfl) rfl #[.agg #[.string a0_0,.slice A0_1 l0_1.length c0_1]] rfl (by (try simp only [mT,mC,mN]);first|done|rfl|(simp only [lDr,lTk];rfl)) ?_;(with_reducible refine (gangsawref39_Short.calls a0_0 _ _ l0_1 true _ ?side1 ?side2 A5.out).mono ?_);(case side1=>exact cq HR0_1.out HB.out);(case side2=>exact HC0_1.out);rintro e w55 ⟨rfl,hb⟩;refine ⟨_,rfl, ?_⟩;replace BK486:=bba BK486 hb;replace HB:=bsa HB hb;(try clear hb);(try clear hb2);(try clear hk);(try clear hi);obtain ⟨hcz56_0,hcz56_1,hfz56_0,hfz56_1⟩ := c2_ BK486.out)|((with_reducible refine gate_callee (f:=27) rfl ?_);refine goesL_ (some 21) rfl rfl Try.func27 (by kernel_rfl) rfl #[.agg #[.string a0_0,.slice A0_1 l0_1.length c0_1],.int .i64 a1] rfl (by (try simp only [mT,mC,mN]);first|done|rfl|(simp only [lDr,lTk];rfl)) ?_;(with_reducible refine (profile_Undercut.calls k a0_0 _ _ l0_1 a1 t489 t490 _ ?side1 ?side2 A7.out).mono ?_);(case side1=>exact cq HR0_1.out HB.out);(case side2=>exact HC0_1.out);rintro e w57 ⟨rfl,hb⟩;refine ⟨_,rfl, ?_⟩;replace BK486:=bba BK486 hb;replace HB:=bsa HB hb;(try clear hb);(try clear hb2);(try clear hk);(try clear hi);obtain ⟨hcz58_0,hcz58_1,hfz58_0,hfz58_1⟩ := c2_ BK486.out)|((with_reducible refine gate_callee (f:=28) rfl ?_);refine goesL_ (some 26) rfl rfl Try.func28 (by kernel_rfl) rfl #[.agg #[.string a0_0,.slice A0_1 l0_1.length c0_1]] rfl (by (try simp only [mT,mC,mN]);first|done|rfl|(simp only [lDr,lTk];rfl)) ?_;(with_reducible refine (profile_Directions.calls k a0_0 _ _ l0_1 t491 t494 _ ?side1 ?side2 A8.out).mono ?_);(case side1=>exact cq HR0_1.out HB.out);(case side2=>exact HC0_1.out);rintro e w59 ⟨v492,rfl,ho0,hb⟩;refine ⟨_,rfl, ?_⟩;have HO493:=am (Kd.R_lower ho0 (below_size (by repeat (first|(with_reducible first|exact HB.out|apply lA|apply lN|apply lD|refine lS ?_ GE486.out)|exact HB.out))));replace BK486:=bba BK486 hb;replace HB:=bsa HB hb;(try clear hb);(try clear hb2);(try clear hk);(try clear hi);(try clear ho0);obtain ⟨hcz60_0,hcz60_1,hfz60_0,hfz60_1⟩ := c2_ BK486.out)|((with_reducible refine gate_callee (f:=13) rfl ?_);refine goesL_ (some 30) rfl rfl Try.func13 (by kernel_rfl) rfl #[.agg #[.string a0_0,.slice A0_1 l0_1.length c0_1]] rfl (by (try simp only [mT,mC,mN]);first|done|rfl|(simp only [lDr,lTk];rfl)) ?_;(with_reducible refine (gangsawref39_Check.calls k a0_0 _ _ l0_1 t495 _ ?side1 ?side2 A9.out).mono ?_);(case side1=>exact cq HR0_1.out HB.out);(case side2=>exact HC0_1.out);rintro e w61 ⟨rfl,hb⟩;refine ⟨_,rfl, ?_⟩;replace HO493:=rba HO493 hb;replace BK486:=bba BK486 hb;replace HB:=bsa HB hb;(try clear hb);(try clear hb2);(try clear hk);(try clear hi);obtain ⟨Ao62,co62,eo62⟩ := Kd.R_slice HO493.out;subst eo62))
       go_ret
       exact ⟨by first|rfl|(simp [errW_none,errW_some] <;> rfl)|(simp [*,errW_none,errW_some] <;> rfl),by repeat (first|(with_reducible first|exact HB.out|apply lA|apply lN|apply lD|refine lS ?_ GE486.out)|exact HB.out)⟩
      (rw [if_neg c51] at H;exact absurd H (by simp))
     (rw [if_neg c50] at H;exact absurd H (by simp))
    (rw [if_neg c49] at H;exact absurd H (by simp))
  ·replace c6:=Bool.eq_false_iff.mpr c6;subst c6
   have H1 : (some true) = some r:=by rw [if_neg (show ¬ (false = true) by decide)] at H;exact H
   clear H;have H:=H1;clear H1;obtain rfl:=Option.some.inj H
   go_enter Try.func5,Try.ntmps5
   go_wp2_with (first|((with_reducible refine gate_dst (N:=2) rfl ?_);(try (refine gate_guard (by rfl) ?_;dsimp only));refine box_event ?hg (N:=2) ?hd (cs:=#[.string a0_0,.slice A0_1 l0_1.length c0_1]) (t:=25) ?hr ?_;(case hd=>rfl);(case hg=>rfl);(case hr=>first|(go_simp;done)|(go_simp;rfl));intro gb486 hg w63 hbox hb;have BK486:=am hbox;have GW486:=bza HB hg;have GE486:=bza HB hg;replace HB:=bsa HB hb;clear hb hbox hg)|((with_reducible refine gate_callee (f:=11) rfl ?_);refine goesL_ (some 13) rfl rfl Try.func11 (by kernel_rfl) rfl #[] rfl (by (try simp only [mT,mC,mN]);first|done|rfl|(simp only [lDr,lTk];rfl)) ?_;(with_reducible refine (gangsawlaw39_awake.calls k  true _ A3.out).mono ?_);rintro e w64 ⟨rfl,hb⟩;refine ⟨_,rfl, ?_⟩;replace BK486:=bba BK486 hb;replace HB:=bsa HB hb;(try clear hb);(try clear hb2);(try clear hk);(try clear hi);obtain ⟨hcz65_0,hcz65_1,hfz65_0,hfz65_1⟩ := c2_ BK486.out)|((with_reducible refine gate_callee (f:=12) rfl ?_);refine goesL_ (some 16) rfl rfl Try.func12 (by kernel_rfl) rfl #[.agg #[.string a0_0,.slice A0_1 l0_1.length c0_1]] rfl (by (try simp only [mT,mC,mN]);first|done|rfl|(simp only [lDr,lTk];rfl)) ?_;(with_reducible refine (gangsawref39_Short.calls a0_0 _ _ l0_1 false _ ?side1 ?side2 A5.out).mono ?_);(case side1=>exact cq HR0_1.out HB.out);(case side2=>exact HC0_1.out);rintro e w66 ⟨rfl,hb⟩;refine ⟨_,rfl, ?_⟩;replace BK486:=bba BK486 hb;replace HB:=bsa HB hb;(try clear hb);(try clear hb2);(try clear hk);(try clear hi)))
   go_ret
   exact ⟨by first|rfl|(simp [errW_none,errW_some] <;> rfl)|(simp [*,errW_none,errW_some] <;> rfl),by repeat (first|(with_reducible first|exact HB.out|apply lA|apply lN|apply lD|refine lS ?_ GE486.out)|exact HB.out)⟩
 ·replace c4:=Bool.eq_false_iff.mpr c4;subst c4
  have H1 : (none) = some r:=by rw [if_neg (show ¬ (false = true) by decide)] at H;exact H
  clear H;have H:=H1;clear H1;exact absurd H (by simp)
end
end Go.Proofs.Ytnjikioimompnaa.PA
