import Derived.Test.YtnjikioimompnaaGg
import Derived.Test.YtnjikioimompnaaPAx14
import Derived.Test.YtnjikioimompnaaPAx8
namespace Go.Proofs.Ytnjikioimompnaa.PA
open Go.RowKit Go.Proofs.YtnjikioimompnaaW.PrintWords Go.Proofs.YtnjikioimompnaaW.PrintLast Go.Proofs.YtnjikioimompnaaW.PrintMore
attribute [local go_sem] max2_int min2_int max_two min_two max_three min_three max_four min_four
set_option linter.unusedVariables false
set_option linter.unusedSimpArgs false
noncomputable section
attribute [local go_sem high] eqA31
mutual
def gangsawlaw39_ProfileMeasures.j0 : Nat → Int → Int → Int → Int → Int → Int → Bool → ByteArray → List (S31) → Int → Int → Int → Int → Option (Bool)
 | 0,_,_,_,_,_,_,_,_,_,_,_,_,_=>none
 | k + 1,x1,x2,x7,x11,x13,x14,x55,x378000,x378001,x387000,x387001,x388000,x388001=>if x55 = true then (none) else (if x7 = 0 then ((gangsawref39_Bounds.f x378001).bind fun bt393=>(if (!(x387000 == bt393.1) || (!(x387001 == bt393.2.1))) = true then (gangsawlaw39_ProfileMeasures.j1 k x1 x2 x11 x13 x14 true x388000 x388001) else (if (!(x388000 == bt393.2.2.1) || (!(x388001 == bt393.2.2.2))) = true then (gangsawlaw39_ProfileMeasures.j1 k x1 x2 x11 x13 x14 true x388000 x388001) else ((gangsawref39_Area.f k x378001).bind fun t399=>(gangsawlaw39_ProfileMeasures.j1 k x1 x2 x11 x13 x14 (x11 != t399) x388000 x388001))))) else (if x14 = x7 then (if (x387000 == 0 && (x387001 == 0)) = true then (if (x388000 == 0 && (x388001 == 0)) = true then (if x11 = 0 then (some (x13 == 0)) else (none)) else (none)) else (none)) else (none)))
def gangsawlaw39_ProfileMeasures.j1 : Nat → Int → Int → Int → Int → Int → Bool → Int → Int → Option (Bool)
 | 0,_,_,_,_,_,_,_,_=>none
 | k + 1,x1,x2,x11,x13,x14,x99,x388000,x388001=>if x99 = true then (none) else (if x1 < 1 then (gangsawlaw39_ProfileMeasures.j2 k x1 x2 x11 x13 x14 true x388000 x388001) else (if x1 > 2000000 then (gangsawlaw39_ProfileMeasures.j2 k x1 x2 x11 x13 x14 true x388000 x388001) else (if x2 < 1 then (gangsawlaw39_ProfileMeasures.j2 k x1 x2 x11 x13 x14 true x388000 x388001) else (gangsawlaw39_ProfileMeasures.j2 k x1 x2 x11 x13 x14 (decide (x2 > 2000000)) x388000 x388001))))
def gangsawlaw39_ProfileMeasures.j2 : Nat → Int → Int → Int → Int → Int → Bool → Int → Int → Option (Bool)
 | 0,_,_,_,_,_,_,_,_=>none
 | k + 1,x1,x2,x11,x13,x14,x113,x388000,x388001=>if x113 = true then (if x14 = 6 then (some (x13 == 0)) else (none)) else (if x388000 > x1 then (if x14 = 12 then (some (x13 == 0)) else (none)) else (if x388001 > x2 then (if x14 = 12 then (some (x13 == 0)) else (none)) else (if x14 = 0 then (some (x13 == (wrap64 ((wrap64 ((wrap64 (2 * x1)) * x2)) - x11)))) else (none))))
end
def gangsawlaw39_ProfileMeasures.f (k : Nat) (a0_0 : ByteArray) (l0_1 : List (S31)) (a1 : Int) (a2 : Int) : Option (Bool):=(gangsawlaw39_awake.f k).bind fun t378=>(if t378 = true then ((gangsawref39_Short.f a0_0 l0_1).bind fun t379=>(if t379 = true then ((gangsawref39_Check.f k a0_0 l0_1).bind fun t380=>((profile_Bounds.f k a0_0 l0_1).bind fun bt381=>((profile_Area.f k a0_0 l0_1).bind fun bt388=>((profile_Waste.f k a0_0 l0_1 a1 a2).bind fun bt390=>((profile_Check.f k a0_0 l0_1).bind fun t392=>(if t392 = t380 then (if bt381.2.2.2.2 = t380 then (gangsawlaw39_ProfileMeasures.j0 k a1 a2 t380 bt388.1 bt390.1 bt390.2 (bt388.2 != t380) a0_0 l0_1 bt381.1 bt381.2.1 bt381.2.2.1 bt381.2.2.2.1) else (gangsawlaw39_ProfileMeasures.j0 k a1 a2 t380 bt388.1 bt390.1 bt390.2 true a0_0 l0_1 bt381.1 bt381.2.1 bt381.2.2.1 bt381.2.2.2.1)) else (gangsawlaw39_ProfileMeasures.j0 k a1 a2 t380 bt388.1 bt390.1 bt390.2 true a0_0 l0_1 bt381.1 bt381.2.1 bt381.2.2.1 bt381.2.2.2.1))))))) else (some true))) else (none))
set_option maxHeartbeats 8000000 in
set_option maxRecDepth 100000 in
theorem gangsawlaw39_ProfileMeasures.calls (k : Nat) (a0_0 : ByteArray) (A0_1 : Option Addr) (c0_1 : Nat) (l0_1 : List (S31)) (a1 : Int) (a2 : Int) (r : Bool) (w : World) (hr0_1 : Kd.C k31 w A0_1 l0_1.length l0_1) (hc0_1 : l0_1.length ≤ c0_1) (h : gangsawlaw39_ProfileMeasures.f k a0_0 l0_1 a1 a2 = some r) :
  Calls Try.prog 3 #[.agg #[.string a0_0,.slice A0_1 l0_1.length c0_1],.int .i64 a1,.int .i64 a2] w fun e w'=>e = .returned (.bool r) ∧ Below w.heap.size w w':=by
 have hu25:=Try.underlying25;have hu31:=Try.underlying31;have HR0_1:=am hr0_1;have HC0_1:=am hc0_1;clear hr0_1 hc0_1;have HB:=am (Below.refl w.heap.size w);have H : ((gangsawlaw39_awake.f k).bind fun t378=>(if t378 = true then ((gangsawref39_Short.f a0_0 l0_1).bind fun t379=>(if t379 = true then ((gangsawref39_Check.f k a0_0 l0_1).bind fun t380=>((profile_Bounds.f k a0_0 l0_1).bind fun bt381=>((profile_Area.f k a0_0 l0_1).bind fun bt388=>((profile_Waste.f k a0_0 l0_1 a1 a2).bind fun bt390=>((profile_Check.f k a0_0 l0_1).bind fun t392=>(if t392 = t380 then (if bt381.2.2.2.2 = t380 then (gangsawlaw39_ProfileMeasures.j0 k a1 a2 t380 bt388.1 bt390.1 bt390.2 (bt388.2 != t380) a0_0 l0_1 bt381.1 bt381.2.1 bt381.2.2.1 bt381.2.2.2.1) else (gangsawlaw39_ProfileMeasures.j0 k a1 a2 t380 bt388.1 bt390.1 bt390.2 true a0_0 l0_1 bt381.1 bt381.2.1 bt381.2.2.1 bt381.2.2.2.1)) else (gangsawlaw39_ProfileMeasures.j0 k a1 a2 t380 bt388.1 bt390.1 bt390.2 true a0_0 l0_1 bt381.1 bt381.2.1 bt381.2.2.1 bt381.2.2.2.1))))))) else (some true))) else (none))) = some r:=h;clear h;replace H:=Option.bind_eq_some_iff.mp H;obtain ⟨t378,A40,H⟩ := H;replace H : (if t378 = true then ((gangsawref39_Short.f a0_0 l0_1).bind fun t379=>(if t379 = true then ((gangsawref39_Check.f k a0_0 l0_1).bind fun t380=>((profile_Bounds.f k a0_0 l0_1).bind fun bt381=>((profile_Area.f k a0_0 l0_1).bind fun bt388=>((profile_Waste.f k a0_0 l0_1 a1 a2).bind fun bt390=>((profile_Check.f k a0_0 l0_1).bind fun t392=>(if t392 = t380 then (if bt381.2.2.2.2 = t380 then (gangsawlaw39_ProfileMeasures.j0 k a1 a2 t380 bt388.1 bt390.1 bt390.2 (bt388.2 != t380) a0_0 l0_1 bt381.1 bt381.2.1 bt381.2.2.1 bt381.2.2.2.1) else (gangsawlaw39_ProfileMeasures.j0 k a1 a2 t380 bt388.1 bt390.1 bt390.2 true a0_0 l0_1 bt381.1 bt381.2.1 bt381.2.2.1 bt381.2.2.2.1)) else (gangsawlaw39_ProfileMeasures.j0 k a1 a2 t380 bt388.1 bt390.1 bt390.2 true a0_0 l0_1 bt381.1 bt381.2.1 bt381.2.2.1 bt381.2.2.2.1))))))) else (some true))) else (none)) = some r:=H;have A4:=am A40;clear A40;by_cases c5 : t378 = true
 ·subst c5
  have H1 : ((gangsawref39_Short.f a0_0 l0_1).bind fun t379=>(if t379 = true then ((gangsawref39_Check.f k a0_0 l0_1).bind fun t380=>((profile_Bounds.f k a0_0 l0_1).bind fun bt381=>((profile_Area.f k a0_0 l0_1).bind fun bt388=>((profile_Waste.f k a0_0 l0_1 a1 a2).bind fun bt390=>((profile_Check.f k a0_0 l0_1).bind fun t392=>(if t392 = t380 then (if bt381.2.2.2.2 = t380 then (gangsawlaw39_ProfileMeasures.j0 k a1 a2 t380 bt388.1 bt390.1 bt390.2 (bt388.2 != t380) a0_0 l0_1 bt381.1 bt381.2.1 bt381.2.2.1 bt381.2.2.2.1) else (gangsawlaw39_ProfileMeasures.j0 k a1 a2 t380 bt388.1 bt390.1 bt390.2 true a0_0 l0_1 bt381.1 bt381.2.1 bt381.2.2.1 bt381.2.2.2.1)) else (gangsawlaw39_ProfileMeasures.j0 k a1 a2 t380 bt388.1 bt390.1 bt390.2 true a0_0 l0_1 bt381.1 bt381.2.1 bt381.2.2.1 bt381.2.2.2.1))))))) else (some true))) = some r:=by rw [if_pos rfl] at H;exact H
  clear H;have H:=H1;clear H1;replace H:=Option.bind_eq_some_iff.mp H;obtain ⟨t379,A60,H⟩ := H;replace H : (if t379 = true then ((gangsawref39_Check.f k a0_0 l0_1).bind fun t380=>((profile_Bounds.f k a0_0 l0_1).bind fun bt381=>((profile_Area.f k a0_0 l0_1).bind fun bt388=>((profile_Waste.f k a0_0 l0_1 a1 a2).bind fun bt390=>((profile_Check.f k a0_0 l0_1).bind fun t392=>(if t392 = t380 then (if bt381.2.2.2.2 = t380 then (gangsawlaw39_ProfileMeasures.j0 k a1 a2 t380 bt388.1 bt390.1 bt390.2 (bt388.2 != t380) a0_0 l0_1 bt381.1 bt381.2.1 bt381.2.2.1 bt381.2.2.2.1) else (gangsawlaw39_ProfileMeasures.j0 k a1 a2 t380 bt388.1 bt390.1 bt390.2 true a0_0 l0_1 bt381.1 bt381.2.1 bt381.2.2.1 bt381.2.2.2.1)) else (gangsawlaw39_ProfileMeasures.j0 k a1 a2 t380 bt388.1 bt390.1 bt390.2 true a0_0 l0_1 bt381.1 bt381.2.1 bt381.2.2.1 bt381.2.2.2.1))))))) else (some true)) = some r:=H;have A6:=am A60;clear A60;by_cases c7 : t379 = true
  ·subst c7
   have H1 : ((gangsawref39_Check.f k a0_0 l0_1).bind fun t380=>((profile_Bounds.f k a0_0 l0_1).bind fun bt381=>((profile_Area.f k a0_0 l0_1).bind fun bt388=>((profile_Waste.f k a0_0 l0_1 a1 a2).bind fun bt390=>((profile_Check.f k a0_0 l0_1).bind fun t392=>(if t392 = t380 then (if bt381.2.2.2.2 = t380 then (gangsawlaw39_ProfileMeasures.j0 k a1 a2 t380 bt388.1 bt390.1 bt390.2 (bt388.2 != t380) a0_0 l0_1 bt381.1 bt381.2.1 bt381.2.2.1 bt381.2.2.2.1) else (gangsawlaw39_ProfileMeasures.j0 k a1 a2 t380 bt388.1 bt390.1 bt390.2 true a0_0 l0_1 bt381.1 bt381.2.1 bt381.2.2.1 bt381.2.2.2.1)) else (gangsawlaw39_ProfileMeasures.j0 k a1 a2 t380 bt388.1 bt390.1 bt390.2 true a0_0 l0_1 bt381.1 bt381.2.1 bt381.2.2.1 bt381.2.2.2.1))))))) = some r:=by rw [if_pos rfl] at H;exact H
   clear H;have H:=H1;clear H1;replace H:=Option.bind_eq_some_iff.mp H;obtain ⟨t380,A80,H⟩ := H;replace H : ((profile_Bounds.f k a0_0 l0_1).bind fun bt381=>((profile_Area.f k a0_0 l0_1).bind fun bt388=>((profile_Waste.f k a0_0 l0_1 a1 a2).bind fun bt390=>((profile_Check.f k a0_0 l0_1).bind fun t392=>(if t392 = t380 then (if bt381.2.2.2.2 = t380 then (gangsawlaw39_ProfileMeasures.j0 k a1 a2 t380 bt388.1 bt390.1 bt390.2 (bt388.2 != t380) a0_0 l0_1 bt381.1 bt381.2.1 bt381.2.2.1 bt381.2.2.2.1) else (gangsawlaw39_ProfileMeasures.j0 k a1 a2 t380 bt388.1 bt390.1 bt390.2 true a0_0 l0_1 bt381.1 bt381.2.1 bt381.2.2.1 bt381.2.2.2.1)) else (gangsawlaw39_ProfileMeasures.j0 k a1 a2 t380 bt388.1 bt390.1 bt390.2 true a0_0 l0_1 bt381.1 bt381.2.1 bt381.2.2.1 bt381.2.2.2.1)))))) = some r:=H;have A8:=am A80;clear A80;replace H:=Option.bind_eq_some_iff.mp H;obtain ⟨⟨t381,t382,t383,t384,t385⟩,A90,H⟩ := H;replace H : ((profile_Area.f k a0_0 l0_1).bind fun bt388=>((profile_Waste.f k a0_0 l0_1 a1 a2).bind fun bt390=>((profile_Check.f k a0_0 l0_1).bind fun t392=>(if t392 = t380 then (if t385 = t380 then (gangsawlaw39_ProfileMeasures.j0 k a1 a2 t380 bt388.1 bt390.1 bt390.2 (bt388.2 != t380) a0_0 l0_1 t381 t382 t383 t384) else (gangsawlaw39_ProfileMeasures.j0 k a1 a2 t380 bt388.1 bt390.1 bt390.2 true a0_0 l0_1 t381 t382 t383 t384)) else (gangsawlaw39_ProfileMeasures.j0 k a1 a2 t380 bt388.1 bt390.1 bt390.2 true a0_0 l0_1 t381 t382 t383 t384))))) = some r:=H;have A9:=am A90;clear A90;replace H:=Option.bind_eq_some_iff.mp H;obtain ⟨⟨t388,t389⟩,A100,H⟩ := H;replace H : ((profile_Waste.f k a0_0 l0_1 a1 a2).bind fun bt390=>((profile_Check.f k a0_0 l0_1).bind fun t392=>(if t392 = t380 then (if t385 = t380 then (gangsawlaw39_ProfileMeasures.j0 k a1 a2 t380 t388 bt390.1 bt390.2 (t389 != t380) a0_0 l0_1 t381 t382 t383 t384) else (gangsawlaw39_ProfileMeasures.j0 k a1 a2 t380 t388 bt390.1 bt390.2 true a0_0 l0_1 t381 t382 t383 t384)) else (gangsawlaw39_ProfileMeasures.j0 k a1 a2 t380 t388 bt390.1 bt390.2 true a0_0 l0_1 t381 t382 t383 t384)))) = some r:=H;have A10:=am A100;clear A100;replace H:=Option.bind_eq_some_iff.mp H;obtain ⟨⟨t390,t391⟩,A110,H⟩ := H;replace H : ((profile_Check.f k a0_0 l0_1).bind fun t392=>(if t392 = t380 then (if t385 = t380 then (gangsawlaw39_ProfileMeasures.j0 k a1 a2 t380 t388 t390 t391 (t389 != t380) a0_0 l0_1 t381 t382 t383 t384) else (gangsawlaw39_ProfileMeasures.j0 k a1 a2 t380 t388 t390 t391 true a0_0 l0_1 t381 t382 t383 t384)) else (gangsawlaw39_ProfileMeasures.j0 k a1 a2 t380 t388 t390 t391 true a0_0 l0_1 t381 t382 t383 t384))) = some r:=H;have A11:=am A110;clear A110;have HC12:=am H;clear H
   go_enter Try.func3,Try.ntmps3
   go_upto_region 9 with (first|((with_reducible refine gate_dst (N:=3) rfl ?_);refine box_event ?hg (N:=3) ?hd (cs:=#[.string a0_0,.slice A0_1 l0_1.length c0_1]) (t:=25) ?hr ?_;(case hd=>rfl);(case hg=>rfl);(case hr=>first|(go_simp;done)|(go_simp;rfl));intro gb377 hg w13 hbox hb;have BK377:=am hbox;have GW377:=bza HB hg;have GE377:=bza HB hg;replace HB:=bsa HB hb;clear hb hbox hg)|((with_reducible refine gate_callee (f:=11) rfl ?_);refine goesL_ (some 17) rfl rfl Try.func11 (by kernel_rfl) rfl #[] rfl (by (try simp only [mT,mC,mN]);first|done|rfl|(simp only [lDr,lTk];rfl)) ?_;(with_reducible refine (gangsawlaw39_awake.calls k  true _ A4.out).mono ?_);rintro e w14 ⟨rfl,hb⟩;refine ⟨_,rfl, ?_⟩;replace BK377:=bba BK377 hb;replace HB:=bsa HB hb;(try clear hb);(try clear hb2);(try clear hk);(try clear hi);obtain ⟨hcz15_0,hcz15_1,hfz15_0,hfz15_1⟩ := c2_ BK377.out)|((with_reducible refine gate_callee (f:=12) rfl ?_);refine goesL_ (some 20) rfl rfl Try.func12 (by kernel_rfl) rfl #[.agg #[.string a0_0,.slice A0_1 l0_1.length c0_1]] rfl (by (try simp only [mT,mC,mN]);first|done|rfl|(simp only [lDr,lTk];rfl)) ?_;(with_reducible refine (gangsawref39_Short.calls a0_0 _ _ l0_1 true _ ?side1 ?side2 A6.out).mono ?_);(case side1=>exact cq HR0_1.out HB.out);(case side2=>exact HC0_1.out);rintro e w16 ⟨rfl,hb⟩;refine ⟨_,rfl, ?_⟩;replace BK377:=bba BK377 hb;replace HB:=bsa HB hb;(try clear hb);(try clear hb2);(try clear hk);(try clear hi);obtain ⟨hcz17_0,hcz17_1,hfz17_0,hfz17_1⟩ := c2_ BK377.out)|((with_reducible refine gate_callee (f:=13) rfl ?_);refine goesL_ (some 23) rfl rfl Try.func13 (by kernel_rfl) rfl #[.agg #[.string a0_0,.slice A0_1 l0_1.length c0_1]] rfl (by (try simp only [mT,mC,mN]);first|done|rfl|(simp only [lDr,lTk];rfl)) ?_;(with_reducible refine (gangsawref39_Check.calls k a0_0 _ _ l0_1 t380 _ ?side1 ?side2 A8.out).mono ?_);(case side1=>exact cq HR0_1.out HB.out);(case side2=>exact HC0_1.out);rintro e w18 ⟨rfl,hb⟩;refine ⟨_,rfl, ?_⟩;replace BK377:=bba BK377 hb;replace HB:=bsa HB hb;(try clear hb);(try clear hb2);(try clear hk);(try clear hi);obtain ⟨hcz19_0,hcz19_1,hfz19_0,hfz19_1⟩ := c2_ BK377.out)|((with_reducible refine gate_callee (f:=14) rfl ?_);refine goesL_ (some 26) rfl rfl Try.func14 (by kernel_rfl) rfl #[.agg #[.string a0_0,.slice A0_1 l0_1.length c0_1]] rfl (by (try simp only [mT,mC,mN]);first|done|rfl|(simp only [lDr,lTk];rfl)) ?_;(with_reducible refine (profile_Bounds.calls k a0_0 _ _ l0_1 t381 t382 t383 t384 t385 _ ?side1 ?side2 A9.out).mono ?_);(case side1=>exact cq HR0_1.out HB.out);(case side2=>exact HC0_1.out);rintro e w20 ⟨rfl,hb⟩;refine ⟨_,rfl, ?_⟩;replace BK377:=bba BK377 hb;replace HB:=bsa HB hb;(try clear hb);(try clear hb2);(try clear hk);(try clear hi))|((with_reducible refine gate_dst (N:=8) rfl ?_);refine box_event ?hg (N:=8) ?hd (cs:=#[.int .i64 0,.int .i64 0]) (t:=31) ?hr ?_;(case hd=>rfl);(case hg=>rfl);(case hr=>first|(go_simp;done)|(go_simp;rfl));intro gb386 hg w21 hbox hb;have BK386:=am hbox;have GW386:=bza HB hg;have GE386:=bza HB hg;have NB377_386:=bla BK377 hg;have NB386_377:=bga BK377 hg;replace BK377:=bba BK377 hb;replace HB:=bsa HB hb;clear hb hbox hg)|((with_reducible refine gate_dst (N:=9) rfl ?_);refine box_event ?hg (N:=9) ?hd (cs:=#[.int .i64 0,.int .i64 0]) (t:=31) ?hr ?_;(case hd=>rfl);(case hg=>rfl);(case hr=>first|(go_simp;done)|(go_simp;rfl));intro gb387 hg w22 hbox hb;have BK387:=am hbox;have GW387:=bza HB hg;have GE387:=bza HB hg;have NB377_387:=bla BK377 hg;have NB387_377:=bga BK377 hg;have NB386_387:=bla BK386 hg;have NB387_386:=bga BK386 hg;replace BK377:=bba BK377 hb;replace BK386:=bba BK386 hb;replace HB:=bsa HB hb;clear hb hbox hg;have hnb23:=NB386_377.out;have hnc23:=NB377_386.out;have hnb24:=NB386_387.out;have hnc24:=NB387_386.out;obtain ⟨hcz25_0,hcz25_1,hfz25_0,hfz25_1⟩ := c2_ BK386.out;have hnb26:=NB387_377.out;have hnc26:=NB377_387.out;obtain ⟨hcz27_0,hcz27_1,hfz27_0,hfz27_1⟩ := c2_ BK387.out;obtain ⟨hcz28_0,hcz28_1,hfz28_0,hfz28_1⟩ := c2_ BK377.out)|((with_reducible refine gate_callee (f:=15) rfl ?_);refine goesL_ (some 32) rfl rfl Try.func15 (by kernel_rfl) rfl #[.agg #[.string a0_0,.slice A0_1 l0_1.length c0_1]] rfl (by (try simp only [mT,mC,mN]);first|done|rfl|(simp only [lDr,lTk];rfl)) ?_;(with_reducible refine (profile_Area.calls k a0_0 _ _ l0_1 t388 t389 _ ?side1 ?side2 A10.out).mono ?_);(case side1=>exact Kd.C_below HR0_1.out (by repeat (first|(with_reducible first|exact HB.out|apply lA|apply lN|apply lD|refine lS ?_ GE377.out|refine lS ?_ GE386.out|refine lS ?_ GE387.out)|exact HB.out)));(case side2=>exact HC0_1.out);rintro e w29 ⟨rfl,hb⟩;refine ⟨_,rfl, ?_⟩;replace BK377:=am (blk_below (g:=gb377) (o:=.cells #[.string a0_0,.slice A0_1 l0_1.length c0_1] 25 (0,0)) (by (with_reducible repeat (first|apply bN|apply bD|apply bA));refine blk_far ?_ NB377_387.out _;(with_reducible repeat (first|apply bN|apply bD|apply bA));refine blk_far ?_ NB377_387.out _;(with_reducible repeat (first|apply bN|apply bD|apply bA));refine blk_far ?_ NB377_386.out _;(with_reducible repeat (first|apply bN|apply bD|apply bA));refine blk_far ?_ NB377_386.out _;(with_reducible repeat (first|apply bN|apply bD|apply bA));exact BK377.out) hb);replace BK386:=am (blk_below (g:=gb386) (o:=.cells #[.int .i64 t381,.int .i64 t382] 31 (0,0)) (by (with_reducible repeat (first|apply bN|apply bD|apply bA));refine blk_far ?_ NB386_387.out _;(with_reducible repeat (first|apply bN|apply bD|apply bA));refine blk_far ?_ NB386_387.out _;(with_reducible repeat (first|apply bN|apply bD|apply bA));refine blk_put (cs:=#[.int .i64 t381,.int .i64 0]) ?_ 1 _ rfl;(with_reducible repeat (first|apply bN|apply bD|apply bA));refine blk_put (cs:=#[.int .i64 0,.int .i64 0]) ?_ 0 _ rfl;(with_reducible repeat (first|apply bN|apply bD|apply bA));exact BK386.out) hb);replace BK387:=am (blk_below (g:=gb387) (o:=.cells #[.int .i64 t383,.int .i64 t384] 31 (0,0)) (by (with_reducible repeat (first|apply bN|apply bD|apply bA));refine blk_put (cs:=#[.int .i64 t383,.int .i64 0]) ?_ 1 _ rfl;(with_reducible repeat (first|apply bN|apply bD|apply bA));refine blk_put (cs:=#[.int .i64 0,.int .i64 0]) ?_ 0 _ rfl;(with_reducible repeat (first|apply bN|apply bD|apply bA));refine blk_far ?_ NB387_386.out _;(with_reducible repeat (first|apply bN|apply bD|apply bA));refine blk_far ?_ NB387_386.out _;(with_reducible repeat (first|apply bN|apply bD|apply bA));exact BK387.out) hb);replace HB:=am (below_step (by repeat (first|(with_reducible first|exact HB.out|apply lA|apply lN|apply lD|refine lS ?_ GE377.out|refine lS ?_ GE386.out|refine lS ?_ GE387.out)|exact HB.out)) hb);(try clear hb);(try clear hb2);(try clear hk);(try clear hi);obtain ⟨hcz30_0,hcz30_1,hfz30_0,hfz30_1⟩ := c2_ BK377.out)|((with_reducible refine gate_callee (f:=16) rfl ?_);refine goesL_ (some 39) rfl rfl Try.func16 (by kernel_rfl) rfl #[.agg #[.string a0_0,.slice A0_1 l0_1.length c0_1],.int .i64 a1,.int .i64 a2] rfl (by (try simp only [mT,mC,mN]);first|done|rfl|(simp only [lDr,lTk];rfl)) ?_;(with_reducible refine (profile_Waste.calls k a0_0 _ _ l0_1 a1 a2 t390 t391 _ ?side1 ?side2 A11.out).mono ?_);(case side1=>exact cq HR0_1.out HB.out);(case side2=>exact HC0_1.out);rintro e w31 ⟨rfl,hb⟩;refine ⟨_,rfl, ?_⟩;replace BK377:=bba BK377 hb;replace BK386:=bba BK386 hb;replace BK387:=bba BK387 hb;replace HB:=bsa HB hb;(try clear hb);(try clear hb2);(try clear hk);(try clear hi)))
   (try simp only [Act.put,sA,s0,sS])
   go_cut [55] (fun v55 wc=>∃ (kq : Nat) (x55_11 : Bool),v55 = .bool x55_11 ∧ Aside0 (gangsawlaw39_ProfileMeasures.j0 kq a1 a2 t380 t388 t390 t391 x55_11 a0_0 l0_1 t381 t382 t383 t384 = some r) ∧ Aside0 (kq ≤ k) ∧ Aside0 (wc.heap[gb377]? = some (.cells #[.string a0_0,(.slice A0_1 l0_1.length c0_1)] 25 (0,0))) ∧ Aside0 (wc.heap[gb386]? = some (.cells #[.int .i64 t381,.int .i64 t382] 31 (0,0))) ∧ Aside0 (wc.heap[gb387]? = some (.cells #[.int .i64 t383,.int .i64 t384] 31 (0,0))) ∧ Aside0 (Below w.heap.size w wc))
   case first =>
    have H:=HC12.out;clear HC12;replace H:=Option.bind_eq_some_iff.mp H;obtain ⟨t392,A320,H⟩ := H;replace H : (if t392 = t380 then (if t385 = t380 then (gangsawlaw39_ProfileMeasures.j0 k a1 a2 t380 t388 t390 t391 (t389 != t380) a0_0 l0_1 t381 t382 t383 t384) else (gangsawlaw39_ProfileMeasures.j0 k a1 a2 t380 t388 t390 t391 true a0_0 l0_1 t381 t382 t383 t384)) else (gangsawlaw39_ProfileMeasures.j0 k a1 a2 t380 t388 t390 t391 true a0_0 l0_1 t381 t382 t383 t384)) = some r:=H;have A32:=am A320;clear A320;by_cases c33 : t392 = t380
    ·rw [if_pos c33] at H;have c33b0 : (t392 == t380) = true:=beq_iff_eq.mpr c33;have c33b1 : (t392 != t380) = false:=bne_eq_false_iff_eq.mpr c33;clear c33;(first|rw [c33b0]|(simp only [i64_w,i32_w];rw [c33b0])|skip)
     by_cases c34 : t385 = t380
     ·rw [if_pos c34] at H;have c34b0 : (t385 == t380) = true:=beq_iff_eq.mpr c34;have c34b1 : (t385 != t380) = false:=bne_eq_false_iff_eq.mpr c34;clear c34;have H':=am H;clear H;have hnb35:=NB377_386.out;have hnc35:=NB386_377.out;have hnb36:=NB377_387.out;have hnc36:=NB387_377.out;obtain ⟨hcz37_0,hcz37_1,hfz37_0,hfz37_1⟩ := c2_ BK377.out
      go_wp2_with (first|((with_reducible refine gate_callee (f:=17) rfl ?_);refine goesL_ (some 43) rfl rfl Try.func17 (by kernel_rfl) rfl #[.agg #[.string a0_0,.slice A0_1 l0_1.length c0_1]] rfl (by (try simp only [mT,mC,mN]);first|done|rfl|(simp only [lDr,lTk];rfl)) ?_;(with_reducible refine (profile_Check.calls k a0_0 _ _ l0_1 t392 _ ?side1 ?side2 A32.out).mono ?_);(case side1=>exact cq HR0_1.out HB.out);(case side2=>exact HC0_1.out);rintro e w38 ⟨rfl,hb⟩;refine ⟨_,rfl, ?_⟩;replace BK377:=bba BK377 hb;replace BK386:=bba BK386 hb;replace BK387:=bba BK387 hb;replace HB:=bsa HB hb;(try clear hb);(try clear hb2);(try clear hk);(try clear hi)))
      go_meet
      case rel=>exact ⟨_,((t389 != t380)),(by first|rfl|(simp;done)|(simp [*];done)),H',⟨by first|omega|exact Nat.le_refl _⟩,⟨bq BK377.out⟩,⟨bq BK386.out⟩,⟨bq BK387.out⟩,⟨by repeat (first|(with_reducible first|exact HB.out|apply lA|apply lN|apply lD|refine lS ?_ GE377.out|refine lS ?_ GE386.out|refine lS ?_ GE387.out)|exact HB.out)⟩⟩
     ·rw [if_neg c34] at H;have c34b0 : (t385 == t380) = false:=beq_eq_false_iff_ne.mpr c34;have c34b1 : (t385 != t380) = true:=bne_iff_ne.mpr c34;have H':=am H;clear H;have hnb39:=NB377_386.out;have hnc39:=NB386_377.out;have hnb40:=NB377_387.out;have hnc40:=NB387_377.out;obtain ⟨hcz41_0,hcz41_1,hfz41_0,hfz41_1⟩ := c2_ BK377.out
      go_wp2_with (first|((with_reducible refine gate_callee (f:=17) rfl ?_);refine goesL_ (some 43) rfl rfl Try.func17 (by kernel_rfl) rfl #[.agg #[.string a0_0,.slice A0_1 l0_1.length c0_1]] rfl (by (try simp only [mT,mC,mN]);first|done|rfl|(simp only [lDr,lTk];rfl)) ?_;(with_reducible refine (profile_Check.calls k a0_0 _ _ l0_1 t392 _ ?side1 ?side2 A32.out).mono ?_);(case side1=>exact cq HR0_1.out HB.out);(case side2=>exact HC0_1.out);rintro e w42 ⟨rfl,hb⟩;refine ⟨_,rfl, ?_⟩;replace BK377:=bba BK377 hb;replace BK386:=bba BK386 hb;replace BK387:=bba BK387 hb;replace HB:=bsa HB hb;(try clear hb);(try clear hb2);(try clear hk);(try clear hi)))
      go_meet
      case rel=>exact ⟨_,(true),(by first|rfl|(simp;done)|(simp [*];done)),H',⟨by first|omega|exact Nat.le_refl _⟩,⟨bq BK377.out⟩,⟨bq BK386.out⟩,⟨bq BK387.out⟩,⟨by repeat (first|(with_reducible first|exact HB.out|apply lA|apply lN|apply lD|refine lS ?_ GE377.out|refine lS ?_ GE386.out|refine lS ?_ GE387.out)|exact HB.out)⟩⟩
    ·rw [if_neg c33] at H;have c33b0 : (t392 == t380) = false:=beq_eq_false_iff_ne.mpr c33;have c33b1 : (t392 != t380) = true:=bne_iff_ne.mpr c33;(first|rw [c33b0]|(simp only [i64_w,i32_w];rw [c33b0])|skip);have H':=am H;clear H;have hnb43:=NB377_386.out;have hnc43:=NB386_377.out;have hnb44:=NB377_387.out;have hnc44:=NB387_377.out;obtain ⟨hcz45_0,hcz45_1,hfz45_0,hfz45_1⟩ := c2_ BK377.out
     go_wp2_with (first|((with_reducible refine gate_callee (f:=17) rfl ?_);refine goesL_ (some 43) rfl rfl Try.func17 (by kernel_rfl) rfl #[.agg #[.string a0_0,.slice A0_1 l0_1.length c0_1]] rfl (by (try simp only [mT,mC,mN]);first|done|rfl|(simp only [lDr,lTk];rfl)) ?_;(with_reducible refine (profile_Check.calls k a0_0 _ _ l0_1 t392 _ ?side1 ?side2 A32.out).mono ?_);(case side1=>exact cq HR0_1.out HB.out);(case side2=>exact HC0_1.out);rintro e w46 ⟨rfl,hb⟩;refine ⟨_,rfl, ?_⟩;replace BK377:=bba BK377 hb;replace BK386:=bba BK386 hb;replace BK387:=bba BK387 hb;replace HB:=bsa HB hb;(try clear hb);(try clear hb2);(try clear hk);(try clear hi)))
     go_meet
     case rel=>exact ⟨_,(true),(by first|rfl|(simp;done)|(simp [*];done)),H',⟨by first|omega|exact Nat.le_refl _⟩,⟨bq BK377.out⟩,⟨bq BK386.out⟩,⟨bq BK387.out⟩,⟨by repeat (first|(with_reducible first|exact HB.out|apply lA|apply lN|apply lD|refine lS ?_ GE377.out|refine lS ?_ GE386.out|refine lS ?_ GE387.out)|exact HB.out)⟩⟩
   case rest =>
    clear HC12
    try clear c1
    try clear c2
    try clear p2
    try clear c3
    try clear c4
    try clear c5
    try clear c7
    try clear c11
    try clear c12
    try clear c13
    try clear c14
    try clear c15
    try clear c16
    try clear c17
    try clear c23
    try clear c24
    try clear c26
    try clear c33
    try clear c33b0
    try clear c33b1
    try clear c34
    try clear c34b0
    try clear c34b1
    try clear c35
    try clear c36
    try clear c39
    try clear c40
    try clear c43
    try clear c44
    try clear hcz15_0
    try clear hcz15_1
    try clear hcz17_0
    try clear hcz17_1
    try clear hcz19_0
    try clear hcz19_1
    try clear hcz25_0
    try clear hcz25_1
    try clear hcz27_0
    try clear hcz27_1
    try clear hcz28_0
    try clear hcz28_1
    try clear hcz30_0
    try clear hcz30_1
    try clear hcz37_0
    try clear hcz37_1
    try clear hcz41_0
    try clear hcz41_1
    try clear hcz45_0
    try clear hcz45_1
    try clear hfz15_0
    try clear hfz15_1
    try clear hfz17_0
    try clear hfz17_1
    try clear hfz19_0
    try clear hfz19_1
    try clear hfz25_0
    try clear hfz25_1
    try clear hfz27_0
    try clear hfz27_1
    try clear hfz28_0
    try clear hfz28_1
    try clear hfz30_0
    try clear hfz30_1
    try clear hfz37_0
    try clear hfz37_1
    try clear hfz41_0
    try clear hfz41_1
    try clear hfz45_0
    try clear hfz45_1
    obtain ⟨kq,x55_11,rfl,HA,HJ11,BK377,BK386,BK387,HB⟩ := hcut
    cases kq with
    | zero=>exact absurd HA.out (by simp [gangsawlaw39_ProfileMeasures.j0])
    | succ kj11 =>
     have H:=HA.out;clear HA;simp only [gangsawlaw39_ProfileMeasures.j0] at H;by_cases c47 : x55_11 = true
     ·subst c47
      have H1 : (none) = some r:=by rw [if_pos rfl] at H;exact H
      clear H;have H:=H1;clear H1;exact absurd H (by simp)
     ·replace c47:=Bool.eq_false_iff.mpr c47;subst c47
      have H1 : (if t380 = 0 then ((gangsawref39_Bounds.f l0_1).bind fun bt393=>(if (!(t381 == bt393.1) || (!(t382 == bt393.2.1))) = true then (gangsawlaw39_ProfileMeasures.j1 kj11 a1 a2 t388 t390 t391 true t383 t384) else (if (!(t383 == bt393.2.2.1) || (!(t384 == bt393.2.2.2))) = true then (gangsawlaw39_ProfileMeasures.j1 kj11 a1 a2 t388 t390 t391 true t383 t384) else ((gangsawref39_Area.f kj11 l0_1).bind fun t399=>(gangsawlaw39_ProfileMeasures.j1 kj11 a1 a2 t388 t390 t391 (t388 != t399) t383 t384))))) else (if t391 = t380 then (if (t381 == 0 && (t382 == 0)) = true then (if (t383 == 0 && (t384 == 0)) = true then (if t388 = 0 then (some (t390 == 0)) else (none)) else (none)) else (none)) else (none))) = some r:=by rw [if_neg (show ¬ (false = true) by decide)] at H;exact H
      clear H;have H:=H1;clear H1;by_cases c48 : t380 = 0
      ·rw [if_pos c48] at H;have c48b0 : (t380 == 0) = true:=beq_iff_eq.mpr c48;have c48b1 : (t380 != 0) = false:=bne_eq_false_iff_eq.mpr c48;clear c48;replace H:=Option.bind_eq_some_iff.mp H;obtain ⟨⟨t393,t394,t395,t396⟩,A490,H⟩ := H;replace H : (if (!(t381 == t393) || (!(t382 == t394))) = true then (gangsawlaw39_ProfileMeasures.j1 kj11 a1 a2 t388 t390 t391 true t383 t384) else (if (!(t383 == t395) || (!(t384 == t396))) = true then (gangsawlaw39_ProfileMeasures.j1 kj11 a1 a2 t388 t390 t391 true t383 t384) else ((gangsawref39_Area.f kj11 l0_1).bind fun t399=>(gangsawlaw39_ProfileMeasures.j1 kj11 a1 a2 t388 t390 t391 (t388 != t399) t383 t384)))) = some r:=H;have A49:=am A490;clear A490;have HC50:=am H;clear H;have hnb51:=NB377_386.out;have hnc51:=NB386_377.out;have hnb52:=NB377_387.out;have hnc52:=NB387_377.out;obtain ⟨hcz53_0,hcz53_1,hfz53_0,hfz53_1⟩ := c2_ BK377.out
       go_upto_region 14 with (first|((with_reducible refine gate_callee (f:=18) rfl ?_);refine goesL_ (some 82) rfl rfl Try.func18 (by kernel_rfl) rfl #[.slice A0_1 l0_1.length c0_1] rfl (by (try simp only [mT,mC,mN]);first|done|rfl|(simp only [lDr,lTk];rfl)) ?_;(with_reducible refine (gangsawref39_Bounds.calls _ _ l0_1 t393 t394 t395 t396 _ ?side1 ?side2 A49.out).mono ?_);(case side1=>exact cq HR0_1.out HB.out);(case side2=>exact HC0_1.out);rintro e w54 ⟨rfl,hb⟩;refine ⟨_,rfl, ?_⟩;replace BK377:=bba BK377 hb;replace BK386:=bba BK386 hb;replace BK387:=bba BK387 hb;replace HB:=bsa HB hb;(try clear hb);(try clear hb2);(try clear hk);(try clear hi))|((with_reducible refine gate_dst (N:=15) rfl ?_);refine box_event ?hg (N:=15) ?hd (cs:=#[.int .i64 0,.int .i64 0]) (t:=31) ?hr ?_;(case hd=>rfl);(case hg=>rfl);(case hr=>first|(go_simp;done)|(go_simp;rfl));intro gb397 hg w55 hbox hb;have BK397:=am hbox;have GW397:=bza HB hg;have GE397:=bza HB hg;have NB377_397:=bla BK377 hg;have NB397_377:=bga BK377 hg;have NB386_397:=bla BK386 hg;have NB397_386:=bga BK386 hg;have NB387_397:=bla BK387 hg;have NB397_387:=bga BK387 hg;replace BK377:=bba BK377 hb;replace BK386:=bba BK386 hb;replace BK387:=bba BK387 hb;replace HB:=bsa HB hb;clear hb hbox hg)|((with_reducible refine gate_dst (N:=16) rfl ?_);refine box_event ?hg (N:=16) ?hd (cs:=#[.int .i64 0,.int .i64 0]) (t:=31) ?hr ?_;(case hd=>rfl);(case hg=>rfl);(case hr=>first|(go_simp;done)|(go_simp;rfl));intro gb398 hg w56 hbox hb;have BK398:=am hbox;have GW398:=bza HB hg;have GE398:=bza HB hg;have NB377_398:=bla BK377 hg;have NB398_377:=bga BK377 hg;have NB386_398:=bla BK386 hg;have NB398_386:=bga BK386 hg;have NB387_398:=bla BK387 hg;have NB398_387:=bga BK387 hg;have NB397_398:=bla BK397 hg;have NB398_397:=bga BK397 hg;replace BK377:=bba BK377 hb;replace BK386:=bba BK386 hb;replace BK387:=bba BK387 hb;replace BK397:=bba BK397 hb;replace HB:=bsa HB hb;clear hb hbox hg;have hnb57:=NB397_377.out;have hnc57:=NB377_397.out;have hnb58:=NB397_386.out;have hnc58:=NB386_397.out;have hnb59:=NB397_387.out;have hnc59:=NB387_397.out;have hnb60:=NB397_398.out;have hnc60:=NB398_397.out;obtain ⟨hcz61_0,hcz61_1,hfz61_0,hfz61_1⟩ := c2_ BK397.out;have hnb62:=NB398_377.out;have hnc62:=NB377_398.out;have hnb63:=NB398_386.out;have hnc63:=NB386_398.out;have hnb64:=NB398_387.out;have hnc64:=NB387_398.out;obtain ⟨hcz65_0,hcz65_1,hfz65_0,hfz65_1⟩ := c2_ BK398.out))
       (try simp only [Act.put,sA,s0,sS])
       go_cut [99] (fun v99 wc=>∃ (kq : Nat) (x99_49 : Bool),v99 = .bool x99_49 ∧ Aside0 (gangsawlaw39_ProfileMeasures.j1 kq a1 a2 t388 t390 t391 x99_49 t383 t384 = some r) ∧ Aside0 (kq ≤ kj11) ∧ Aside0 (wc.heap[gb377]? = some (.cells #[.string a0_0,(.slice A0_1 l0_1.length c0_1)] 25 (0,0))) ∧ Aside0 (wc.heap[gb386]? = some (.cells #[.int .i64 t381,.int .i64 t382] 31 (0,0))) ∧ Aside0 (wc.heap[gb387]? = some (.cells #[.int .i64 t383,.int .i64 t384] 31 (0,0))) ∧ Aside0 (wc.heap[gb397]? = some (.cells #[.int .i64 t393,.int .i64 t394] 31 (0,0))) ∧ Aside0 (wc.heap[gb398]? = some (.cells #[.int .i64 t395,.int .i64 t396] 31 (0,0))) ∧ Aside0 (Below w.heap.size w wc))
       case first =>
        have H:=HC50.out;clear HC50;by_cases c66 : (!(t381 == t393) || (!(t382 == t394))) = true
        ·rw [if_pos c66] at H;have c66b0 : (!(t381 == t393) || (!(t382 == t394))) = true:=c66;clear c66;(first|rw [c66b0]|(simp only [i64_w,i32_w];rw [c66b0])|skip);have H':=am H;clear H;have hnb67:=NB386_377.out;have hnc67:=NB377_386.out;have hnb68:=NB386_387.out;have hnc68:=NB387_386.out;have hnb69:=NB386_397.out;have hnc69:=NB397_386.out;have hnb70:=NB386_398.out;have hnc70:=NB398_386.out;obtain ⟨hcz71_0,hcz71_1,hfz71_0,hfz71_1⟩ := c2_ BK386.out;have hnb72:=NB397_377.out;have hnc72:=NB377_397.out;have hnb73:=NB397_387.out;have hnc73:=NB387_397.out;have hnb74:=NB397_398.out;have hnc74:=NB398_397.out;obtain ⟨hcz75_0,hcz75_1,hfz75_0,hfz75_1⟩ := c2_ BK397.out
         go_wp2
         go_meet
         case rel=>exact ⟨_,(true),(by first|rfl|(simp;done)|(simp [*];done)),H',⟨by have:=HJ11.out;first|omega|exact Nat.le_refl _⟩,⟨by (with_reducible repeat (first|apply bN|apply bD|apply bA));refine blk_far ?_ NB377_398.out _;(with_reducible repeat (first|apply bN|apply bD|apply bA));refine blk_far ?_ NB377_398.out _;(with_reducible repeat (first|apply bN|apply bD|apply bA));refine blk_far ?_ NB377_397.out _;(with_reducible repeat (first|apply bN|apply bD|apply bA));refine blk_far ?_ NB377_397.out _;(with_reducible repeat (first|apply bN|apply bD|apply bA));exact BK377.out⟩,⟨by (with_reducible repeat (first|apply bN|apply bD|apply bA));refine blk_far ?_ NB386_398.out _;(with_reducible repeat (first|apply bN|apply bD|apply bA));refine blk_far ?_ NB386_398.out _;(with_reducible repeat (first|apply bN|apply bD|apply bA));refine blk_far ?_ NB386_397.out _;(with_reducible repeat (first|apply bN|apply bD|apply bA));refine blk_far ?_ NB386_397.out _;(with_reducible repeat (first|apply bN|apply bD|apply bA));exact BK386.out⟩,⟨by (with_reducible repeat (first|apply bN|apply bD|apply bA));refine blk_far ?_ NB387_398.out _;(with_reducible repeat (first|apply bN|apply bD|apply bA));refine blk_far ?_ NB387_398.out _;(with_reducible repeat (first|apply bN|apply bD|apply bA));refine blk_far ?_ NB387_397.out _;(with_reducible repeat (first|apply bN|apply bD|apply bA));refine blk_far ?_ NB387_397.out _;(with_reducible repeat (first|apply bN|apply bD|apply bA));exact BK387.out⟩,⟨by (with_reducible repeat (first|apply bN|apply bD|apply bA));refine blk_far ?_ NB397_398.out _;(with_reducible repeat (first|apply bN|apply bD|apply bA));refine blk_far ?_ NB397_398.out _;(with_reducible repeat (first|apply bN|apply bD|apply bA));refine blk_put (cs:=#[.int .i64 t393,.int .i64 0]) ?_ 1 _ rfl;(with_reducible repeat (first|apply bN|apply bD|apply bA));refine blk_put (cs:=#[.int .i64 0,.int .i64 0]) ?_ 0 _ rfl;(with_reducible repeat (first|apply bN|apply bD|apply bA));exact BK397.out⟩,⟨by (with_reducible repeat (first|apply bN|apply bD|apply bA));refine blk_put (cs:=#[.int .i64 t395,.int .i64 0]) ?_ 1 _ rfl;(with_reducible repeat (first|apply bN|apply bD|apply bA));refine blk_put (cs:=#[.int .i64 0,.int .i64 0]) ?_ 0 _ rfl;(with_reducible repeat (first|apply bN|apply bD|apply bA));refine blk_far ?_ NB398_397.out _;(with_reducible repeat (first|apply bN|apply bD|apply bA));refine blk_far ?_ NB398_397.out _;(with_reducible repeat (first|apply bN|apply bD|apply bA));exact BK398.out⟩,⟨by repeat (first|(with_reducible first|exact HB.out|apply lA|apply lN|apply lD|refine lS ?_ GE377.out|refine lS ?_ GE386.out|refine lS ?_ GE387.out|refine lS ?_ GE397.out|refine lS ?_ GE398.out)|exact HB.out)⟩⟩
        ·rw [if_neg c66] at H
         have c66b0 : (!(t381 == t393) || (!(t382 == t394))) = false:=by simpa using c66
         clear c66;(first|rw [c66b0]|(simp only [i64_w,i32_w];rw [c66b0])|skip)
         by_cases c76 : (!(t383 == t395) || (!(t384 == t396))) = true
         ·rw [if_pos c76] at H;have c76b0 : (!(t383 == t395) || (!(t384 == t396))) = true:=c76;clear c76;have H':=am H;clear H;have hnb77:=NB386_377.out;have hnc77:=NB377_386.out;have hnb78:=NB386_387.out;have hnc78:=NB387_386.out;have hnb79:=NB386_397.out;have hnc79:=NB397_386.out;have hnb80:=NB386_398.out;have hnc80:=NB398_386.out;obtain ⟨hcz81_0,hcz81_1,hfz81_0,hfz81_1⟩ := c2_ BK386.out;have hnb82:=NB397_377.out;have hnc82:=NB377_397.out;have hnb83:=NB397_387.out;have hnc83:=NB387_397.out;have hnb84:=NB397_398.out;have hnc84:=NB398_397.out;obtain ⟨hcz85_0,hcz85_1,hfz85_0,hfz85_1⟩ := c2_ BK397.out;have hnb86:=NB387_377.out;have hnc86:=NB377_387.out;have hnb87:=NB387_398.out;have hnc87:=NB398_387.out;obtain ⟨hcz88_0,hcz88_1,hfz88_0,hfz88_1⟩ := c2_ BK387.out;have hnb89:=NB398_377.out;have hnc89:=NB377_398.out;obtain ⟨hcz90_0,hcz90_1,hfz90_0,hfz90_1⟩ := c2_ BK398.out
          go_wp2
          go_meet
          case rel=>exact ⟨_,(true),(by first|rfl|(simp;done)|(simp [*];done)),H',⟨by have:=HJ11.out;first|omega|exact Nat.le_refl _⟩,⟨by (with_reducible repeat (first|apply bN|apply bD|apply bA));refine blk_far ?_ NB377_398.out _;(with_reducible repeat (first|apply bN|apply bD|apply bA));refine blk_far ?_ NB377_398.out _;(with_reducible repeat (first|apply bN|apply bD|apply bA));refine blk_far ?_ NB377_397.out _;(with_reducible repeat (first|apply bN|apply bD|apply bA));refine blk_far ?_ NB377_397.out _;(with_reducible repeat (first|apply bN|apply bD|apply bA));exact BK377.out⟩,⟨by (with_reducible repeat (first|apply bN|apply bD|apply bA));refine blk_far ?_ NB386_398.out _;(with_reducible repeat (first|apply bN|apply bD|apply bA));refine blk_far ?_ NB386_398.out _;(with_reducible repeat (first|apply bN|apply bD|apply bA));refine blk_far ?_ NB386_397.out _;(with_reducible repeat (first|apply bN|apply bD|apply bA));refine blk_far ?_ NB386_397.out _;(with_reducible repeat (first|apply bN|apply bD|apply bA));exact BK386.out⟩,⟨by (with_reducible repeat (first|apply bN|apply bD|apply bA));refine blk_far ?_ NB387_398.out _;(with_reducible repeat (first|apply bN|apply bD|apply bA));refine blk_far ?_ NB387_398.out _;(with_reducible repeat (first|apply bN|apply bD|apply bA));refine blk_far ?_ NB387_397.out _;(with_reducible repeat (first|apply bN|apply bD|apply bA));refine blk_far ?_ NB387_397.out _;(with_reducible repeat (first|apply bN|apply bD|apply bA));exact BK387.out⟩,⟨by (with_reducible repeat (first|apply bN|apply bD|apply bA));refine blk_far ?_ NB397_398.out _;(with_reducible repeat (first|apply bN|apply bD|apply bA));refine blk_far ?_ NB397_398.out _;(with_reducible repeat (first|apply bN|apply bD|apply bA));refine blk_put (cs:=#[.int .i64 t393,.int .i64 0]) ?_ 1 _ rfl;(with_reducible repeat (first|apply bN|apply bD|apply bA));refine blk_put (cs:=#[.int .i64 0,.int .i64 0]) ?_ 0 _ rfl;(with_reducible repeat (first|apply bN|apply bD|apply bA));exact BK397.out⟩,⟨by (with_reducible repeat (first|apply bN|apply bD|apply bA));refine blk_put (cs:=#[.int .i64 t395,.int .i64 0]) ?_ 1 _ rfl;(with_reducible repeat (first|apply bN|apply bD|apply bA));refine blk_put (cs:=#[.int .i64 0,.int .i64 0]) ?_ 0 _ rfl;(with_reducible repeat (first|apply bN|apply bD|apply bA));refine blk_far ?_ NB398_397.out _;(with_reducible repeat (first|apply bN|apply bD|apply bA));refine blk_far ?_ NB398_397.out _;(with_reducible repeat (first|apply bN|apply bD|apply bA));exact BK398.out⟩,⟨by repeat (first|(with_reducible first|exact HB.out|apply lA|apply lN|apply lD|refine lS ?_ GE377.out|refine lS ?_ GE386.out|refine lS ?_ GE387.out|refine lS ?_ GE397.out|refine lS ?_ GE398.out)|exact HB.out)⟩⟩
         ·rw [if_neg c76] at H
          have c76b0 : (!(t383 == t395) || (!(t384 == t396))) = false:=by simpa using c76
          clear c76;replace H:=Option.bind_eq_some_iff.mp H;obtain ⟨t399,A910,H⟩ := H;replace H : (gangsawlaw39_ProfileMeasures.j1 kj11 a1 a2 t388 t390 t391 (t388 != t399) t383 t384) = some r:=H;have A91:=am A910;clear A910;have H':=am H;clear H;have hnb92:=NB386_377.out;have hnc92:=NB377_386.out;have hnb93:=NB386_387.out;have hnc93:=NB387_386.out;have hnb94:=NB386_397.out;have hnc94:=NB397_386.out;have hnb95:=NB386_398.out;have hnc95:=NB398_386.out;obtain ⟨hcz96_0,hcz96_1,hfz96_0,hfz96_1⟩ := c2_ BK386.out;have hnb97:=NB397_377.out;have hnc97:=NB377_397.out;have hnb98:=NB397_387.out;have hnc98:=NB387_397.out;have hnb99:=NB397_398.out;have hnc99:=NB398_397.out;obtain ⟨hcz100_0,hcz100_1,hfz100_0,hfz100_1⟩ := c2_ BK397.out;have hnb101:=NB387_377.out;have hnc101:=NB377_387.out;have hnb102:=NB387_398.out;have hnc102:=NB398_387.out;obtain ⟨hcz103_0,hcz103_1,hfz103_0,hfz103_1⟩ := c2_ BK387.out;have hnb104:=NB398_377.out;have hnc104:=NB377_398.out;obtain ⟨hcz105_0,hcz105_1,hfz105_0,hfz105_1⟩ := c2_ BK398.out;obtain ⟨hcz106_0,hcz106_1,hfz106_0,hfz106_1⟩ := c2_ BK377.out
          go_wp2_with (first|(go_at_call 19;(with_reducible refine (gangsawref39_Area.calls kj11 _ _ l0_1 t399 _ ?side1 ?side2 A91.out).mono ?_);(case side1=>exact Kd.C_below HR0_1.out (by repeat (first|(with_reducible first|exact HB.out|apply lA|apply lN|apply lD|refine lS ?_ GE377.out|refine lS ?_ GE386.out|refine lS ?_ GE387.out|refine lS ?_ GE397.out|refine lS ?_ GE398.out)|exact HB.out)));(case side2=>exact HC0_1.out);rintro e w107 ⟨rfl,hb⟩;replace BK377:=am (blk_below (g:=gb377) (o:=.cells #[.string a0_0,.slice A0_1 l0_1.length c0_1] 25 (0,0)) (by (with_reducible repeat (first|apply bN|apply bD|apply bA));refine blk_far ?_ NB377_398.out _;(with_reducible repeat (first|apply bN|apply bD|apply bA));refine blk_far ?_ NB377_398.out _;(with_reducible repeat (first|apply bN|apply bD|apply bA));refine blk_far ?_ NB377_397.out _;(with_reducible repeat (first|apply bN|apply bD|apply bA));refine blk_far ?_ NB377_397.out _;(with_reducible repeat (first|apply bN|apply bD|apply bA));exact BK377.out) hb);replace BK386:=am (blk_below (g:=gb386) (o:=.cells #[.int .i64 t381,.int .i64 t382] 31 (0,0)) (by (with_reducible repeat (first|apply bN|apply bD|apply bA));refine blk_far ?_ NB386_398.out _;(with_reducible repeat (first|apply bN|apply bD|apply bA));refine blk_far ?_ NB386_398.out _;(with_reducible repeat (first|apply bN|apply bD|apply bA));refine blk_far ?_ NB386_397.out _;(with_reducible repeat (first|apply bN|apply bD|apply bA));refine blk_far ?_ NB386_397.out _;(with_reducible repeat (first|apply bN|apply bD|apply bA));exact BK386.out) hb);replace BK387:=am (blk_below (g:=gb387) (o:=.cells #[.int .i64 t383,.int .i64 t384] 31 (0,0)) (by (with_reducible repeat (first|apply bN|apply bD|apply bA));refine blk_far ?_ NB387_398.out _;(with_reducible repeat (first|apply bN|apply bD|apply bA));refine blk_far ?_ NB387_398.out _;(with_reducible repeat (first|apply bN|apply bD|apply bA));refine blk_far ?_ NB387_397.out _;(with_reducible repeat (first|apply bN|apply bD|apply bA));refine blk_far ?_ NB387_397.out _;(with_reducible repeat (first|apply bN|apply bD|apply bA));exact BK387.out) hb);replace BK397:=am (blk_below (g:=gb397) (o:=.cells #[.int .i64 t393,.int .i64 t394] 31 (0,0)) (by (with_reducible repeat (first|apply bN|apply bD|apply bA));refine blk_far ?_ NB397_398.out _;(with_reducible repeat (first|apply bN|apply bD|apply bA));refine blk_far ?_ NB397_398.out _;(with_reducible repeat (first|apply bN|apply bD|apply bA));refine blk_put (cs:=#[.int .i64 t393,.int .i64 0]) ?_ 1 _ rfl;(with_reducible repeat (first|apply bN|apply bD|apply bA));refine blk_put (cs:=#[.int .i64 0,.int .i64 0]) ?_ 0 _ rfl;(with_reducible repeat (first|apply bN|apply bD|apply bA));exact BK397.out) hb);replace BK398:=am (blk_below (g:=gb398) (o:=.cells #[.int .i64 t395,.int .i64 t396] 31 (0,0)) (by (with_reducible repeat (first|apply bN|apply bD|apply bA));refine blk_put (cs:=#[.int .i64 t395,.int .i64 0]) ?_ 1 _ rfl;(with_reducible repeat (first|apply bN|apply bD|apply bA));refine blk_put (cs:=#[.int .i64 0,.int .i64 0]) ?_ 0 _ rfl;(with_reducible repeat (first|apply bN|apply bD|apply bA));refine blk_far ?_ NB398_397.out _;(with_reducible repeat (first|apply bN|apply bD|apply bA));refine blk_far ?_ NB398_397.out _;(with_reducible repeat (first|apply bN|apply bD|apply bA));exact BK398.out) hb);replace HB:=am (below_step (by repeat (first|(with_reducible first|exact HB.out|apply lA|apply lN|apply lD|refine lS ?_ GE377.out|refine lS ?_ GE386.out|refine lS ?_ GE387.out|refine lS ?_ GE397.out|refine lS ?_ GE398.out)|exact HB.out)) hb);(try clear hb);(try clear hb2);(try clear hk);(try clear hi)))
          go_meet
          case rel=>exact ⟨_,((t388 != t399)),(by first|rfl|(simp;done)|(simp [*];done)),H',⟨by have:=HJ11.out;first|omega|exact Nat.le_refl _⟩,⟨bq BK377.out⟩,⟨bq BK386.out⟩,⟨bq BK387.out⟩,⟨bq BK397.out⟩,⟨bq BK398.out⟩,⟨by repeat (first|(with_reducible first|exact HB.out|apply lA|apply lN|apply lD|refine lS ?_ GE377.out|refine lS ?_ GE386.out|refine lS ?_ GE387.out|refine lS ?_ GE397.out|refine lS ?_ GE398.out)|exact HB.out)⟩⟩
       case rest =>
        clear HC50
        try clear c1
        try clear c2
        try clear p2
        try clear c3
        try clear c4
        try clear c5
        try clear c6
        try clear c7
        try clear c8
        try clear c9
        try clear c10
        try clear c11
        try clear c12
        try clear c13
        try clear c14
        try clear c15
        try clear c16
        try clear c17
        try clear c18
        try clear c23
        try clear c24
        try clear c26
        try clear c33
        try clear c33b0
        try clear c33b1
        try clear c34
        try clear c34b0
        try clear c34b1
        try clear c35
        try clear c36
        try clear c39
        try clear c40
        try clear c43
        try clear c44
        try clear c47
        try clear c48
        try clear c48b0
        try clear c48b1
        try clear c51
        try clear c52
        try clear c57
        try clear c58
        try clear c59
        try clear c60
        try clear c62
        try clear c63
        try clear c64
        try clear c66
        try clear c66b0
        try clear c67
        try clear c68
        try clear c69
        try clear c70
        try clear c72
        try clear c73
        try clear c74
        try clear c76
        try clear c76b0
        try clear c77
        try clear c78
        try clear c79
        try clear c80
        try clear c82
        try clear c83
        try clear c84
        try clear c86
        try clear c87
        try clear c89
        try clear c92
        try clear c93
        try clear c94
        try clear c95
        try clear c97
        try clear c98
        try clear c99
        try clear c101
        try clear c102
        try clear c104
        try clear hcz100_0
        try clear hcz100_1
        try clear hcz103_0
        try clear hcz103_1
        try clear hcz105_0
        try clear hcz105_1
        try clear hcz106_0
        try clear hcz106_1
        try clear hcz15_0
        try clear hcz15_1
        try clear hcz17_0
        try clear hcz17_1
        try clear hcz19_0
        try clear hcz19_1
        try clear hcz25_0
        try clear hcz25_1
        try clear hcz27_0
        try clear hcz27_1
        try clear hcz28_0
        try clear hcz28_1
        try clear hcz30_0
        try clear hcz30_1
        try clear hcz37_0
        try clear hcz37_1
        try clear hcz41_0
        try clear hcz41_1
        try clear hcz45_0
        try clear hcz45_1
        try clear hcz53_0
        try clear hcz53_1
        try clear hcz61_0
        try clear hcz61_1
        try clear hcz65_0
        try clear hcz65_1
        try clear hcz71_0
        try clear hcz71_1
        try clear hcz75_0
        try clear hcz75_1
        try clear hcz81_0
        try clear hcz81_1
        try clear hcz85_0
        try clear hcz85_1
        try clear hcz88_0
        try clear hcz88_1
        try clear hcz90_0
        try clear hcz90_1
        try clear hcz96_0
        try clear hcz96_1
        try clear hfz100_0
        try clear hfz100_1
        try clear hfz103_0
        try clear hfz103_1
        try clear hfz105_0
        try clear hfz105_1
        try clear hfz106_0
        try clear hfz106_1
        try clear hfz15_0
        try clear hfz15_1
        try clear hfz17_0
        try clear hfz17_1
        try clear hfz19_0
        try clear hfz19_1
        try clear hfz25_0
        try clear hfz25_1
        try clear hfz27_0
        try clear hfz27_1
        try clear hfz28_0
        try clear hfz28_1
        try clear hfz30_0
        try clear hfz30_1
        try clear hfz37_0
        try clear hfz37_1
        try clear hfz41_0
        try clear hfz41_1
        try clear hfz45_0
        try clear hfz45_1
        try clear hfz53_0
        try clear hfz53_1
        try clear hfz61_0
        try clear hfz61_1
        try clear hfz65_0
        try clear hfz65_1
        try clear hfz71_0
        try clear hfz71_1
        try clear hfz75_0
        try clear hfz75_1
        try clear hfz81_0
        try clear hfz81_1
        try clear hfz85_0
        try clear hfz85_1
        try clear hfz88_0
        try clear hfz88_1
        try clear hfz90_0
        try clear hfz90_1
        try clear hfz96_0
        try clear hfz96_1
        try clear p2
        obtain ⟨kq,x99_49,rfl,HA,HJ49,BK377,BK386,BK387,BK397,BK398,HB⟩ := hcut
        cases kq with
        | zero=>exact absurd HA.out (by simp [gangsawlaw39_ProfileMeasures.j1])
        | succ kj49 =>
         have H:=HA.out;clear HA;simp only [gangsawlaw39_ProfileMeasures.j1] at H;by_cases c108 : x99_49 = true
         ·subst c108
          have H1 : (none) = some r:=by rw [if_pos rfl] at H;exact H
          clear H;have H:=H1;clear H1;exact absurd H (by simp)
         ·replace c108:=Bool.eq_false_iff.mpr c108;subst c108
          have H1 : (if a1 < 1 then (gangsawlaw39_ProfileMeasures.j2 kj49 a1 a2 t388 t390 t391 true t383 t384) else (if a1 > 2000000 then (gangsawlaw39_ProfileMeasures.j2 kj49 a1 a2 t388 t390 t391 true t383 t384) else (if a2 < 1 then (gangsawlaw39_ProfileMeasures.j2 kj49 a1 a2 t388 t390 t391 true t383 t384) else (gangsawlaw39_ProfileMeasures.j2 kj49 a1 a2 t388 t390 t391 (decide (a2 > 2000000)) t383 t384)))) = some r:=by rw [if_neg (show ¬ (false = true) by decide)] at H;exact H
          clear H;have H:=H1;clear H1;have HC109:=am H;clear H
          go_upto_region 16 with (fail)
          go_cut [113] (fun v113 wc=>∃ (kq : Nat) (x113_108 : Bool),v113 = .bool x113_108 ∧ Aside0 (gangsawlaw39_ProfileMeasures.j2 kq a1 a2 t388 t390 t391 x113_108 t383 t384 = some r) ∧ Aside0 (kq ≤ kj49) ∧ Aside0 (wc.heap[gb377]? = some (.cells #[.string a0_0,(.slice A0_1 l0_1.length c0_1)] 25 (0,0))) ∧ Aside0 (wc.heap[gb386]? = some (.cells #[.int .i64 t381,.int .i64 t382] 31 (0,0))) ∧ Aside0 (wc.heap[gb387]? = some (.cells #[.int .i64 t383,.int .i64 t384] 31 (0,0))) ∧ Aside0 (wc.heap[gb397]? = some (.cells #[.int .i64 t393,.int .i64 t394] 31 (0,0))) ∧ Aside0 (wc.heap[gb398]? = some (.cells #[.int .i64 t395,.int .i64 t396] 31 (0,0))) ∧ Aside0 (Below w.heap.size w wc))
          case first =>
           have H:=HC109.out;clear HC109;by_cases c110 : a1 < 1
           ·rw [if_pos c110] at H;have c110b0 : decide (a1 < 1) = true:=decide_eq_true c110;clear c110;(first|rw [c110b0]|(simp only [i64_w,i32_w];rw [c110b0])|skip);have H':=am H;clear H
            go_wp2
            go_meet
            case rel=>exact ⟨_,(true),(by first|rfl|(simp;done)|(simp [*];done)),H',⟨by have:=HJ11.out;have:=HJ49.out;first|omega|exact Nat.le_refl _⟩,⟨bq BK377.out⟩,⟨bq BK386.out⟩,⟨bq BK387.out⟩,⟨bq BK397.out⟩,⟨bq BK398.out⟩,⟨by repeat (first|(with_reducible first|exact HB.out|apply lA|apply lN|apply lD|refine lS ?_ GE377.out|refine lS ?_ GE386.out|refine lS ?_ GE387.out|refine lS ?_ GE397.out|refine lS ?_ GE398.out)|exact HB.out)⟩⟩
           ·rw [if_neg c110] at H;have c110b0 : decide (a1 < 1) = false:=decide_eq_false c110;clear c110;(first|rw [c110b0]|(simp only [i64_w,i32_w];rw [c110b0])|skip)
            by_cases c111 : a1 > 2000000
            ·rw [if_pos c111] at H;have c111b0 : decide (2000000 < a1) = true:=decide_eq_true c111;clear c111;have H':=am H;clear H
             go_wp2
             go_meet
             case rel=>exact ⟨_,(true),(by first|rfl|(simp;done)|(simp [*];done)),H',⟨by have:=HJ11.out;have:=HJ49.out;first|omega|exact Nat.le_refl _⟩,⟨bq BK377.out⟩,⟨bq BK386.out⟩,⟨bq BK387.out⟩,⟨bq BK397.out⟩,⟨bq BK398.out⟩,⟨by repeat (first|(with_reducible first|exact HB.out|apply lA|apply lN|apply lD|refine lS ?_ GE377.out|refine lS ?_ GE386.out|refine lS ?_ GE387.out|refine lS ?_ GE397.out|refine lS ?_ GE398.out)|exact HB.out)⟩⟩
            ·rw [if_neg c111] at H;have c111b0 : decide (2000000 < a1) = false:=decide_eq_false c111;clear c111;by_cases c112 : a2 < 1
             ·rw [if_pos c112] at H;have c112b0 : decide (a2 < 1) = true:=decide_eq_true c112;clear c112;have H':=am H;clear H
              go_wp2
              go_meet
              case rel=>exact ⟨_,(true),(by first|rfl|(simp;done)|(simp [*];done)),H',⟨by have:=HJ11.out;have:=HJ49.out;first|omega|exact Nat.le_refl _⟩,⟨bq BK377.out⟩,⟨bq BK386.out⟩,⟨bq BK387.out⟩,⟨bq BK397.out⟩,⟨bq BK398.out⟩,⟨by repeat (first|(with_reducible first|exact HB.out|apply lA|apply lN|apply lD|refine lS ?_ GE377.out|refine lS ?_ GE386.out|refine lS ?_ GE387.out|refine lS ?_ GE397.out|refine lS ?_ GE398.out)|exact HB.out)⟩⟩
             ·rw [if_neg c112] at H;have c112b0 : decide (a2 < 1) = false:=decide_eq_false c112;clear c112;have H':=am H;clear H
              go_wp2
              go_meet
              case rel=>exact ⟨_,(decide (a2 > 2000000)),(by first|rfl|(simp;done)|(simp [*];done)),H',⟨by have:=HJ11.out;have:=HJ49.out;first|omega|exact Nat.le_refl _⟩,⟨bq BK377.out⟩,⟨bq BK386.out⟩,⟨bq BK387.out⟩,⟨bq BK397.out⟩,⟨bq BK398.out⟩,⟨by repeat (first|(with_reducible first|exact HB.out|apply lA|apply lN|apply lD|refine lS ?_ GE377.out|refine lS ?_ GE386.out|refine lS ?_ GE387.out|refine lS ?_ GE397.out|refine lS ?_ GE398.out)|exact HB.out)⟩⟩
          case rest =>
           clear HC109
           try clear c1
           try clear c2
           try clear p2
           try clear c3
           try clear c4
           try clear c5
           try clear c6
           try clear c7
           try clear c8
           try clear c9
           try clear c10
           try clear c11
           try clear c12
           try clear c13
           try clear c14
           try clear c15
           try clear c16
           try clear c17
           try clear c18
           try clear c23
           try clear c24
           try clear c26
           try clear c33
           try clear c33b0
           try clear c33b1
           try clear c34
           try clear c34b0
           try clear c34b1
           try clear c35
           try clear c36
           try clear c39
           try clear c40
           try clear c43
           try clear c44
           try clear c47
           try clear c48
           try clear c48b0
           try clear c48b1
           try clear c51
           try clear c52
           try clear c57
           try clear c58
           try clear c59
           try clear c60
           try clear c62
           try clear c63
           try clear c64
           try clear c66
           try clear c66b0
           try clear c67
           try clear c68
           try clear c69
           try clear c70
           try clear c72
           try clear c73
           try clear c74
           try clear c76
           try clear c76b0
           try clear c77
           try clear c78
           try clear c79
           try clear c80
           try clear c82
           try clear c83
           try clear c84
           try clear c86
           try clear c87
           try clear c89
           try clear c92
           try clear c93
           try clear c94
           try clear c95
           try clear c97
           try clear c98
           try clear c99
           try clear c101
           try clear c102
           try clear c104
           try clear c108
           try clear c110
           try clear c110b0
           try clear c111
           try clear c111b0
           try clear c112
           try clear c112b0
           try clear hcz100_0
           try clear hcz100_1
           try clear hcz103_0
           try clear hcz103_1
           try clear hcz105_0
           try clear hcz105_1
           try clear hcz106_0
           try clear hcz106_1
           try clear hcz15_0
           try clear hcz15_1
           try clear hcz17_0
           try clear hcz17_1
           try clear hcz19_0
           try clear hcz19_1
           try clear hcz25_0
           try clear hcz25_1
           try clear hcz27_0
           try clear hcz27_1
           try clear hcz28_0
           try clear hcz28_1
           try clear hcz30_0
           try clear hcz30_1
           try clear hcz37_0
           try clear hcz37_1
           try clear hcz41_0
           try clear hcz41_1
           try clear hcz45_0
           try clear hcz45_1
           try clear hcz53_0
           try clear hcz53_1
           try clear hcz61_0
           try clear hcz61_1
           try clear hcz65_0
           try clear hcz65_1
           try clear hcz71_0
           try clear hcz71_1
           try clear hcz75_0
           try clear hcz75_1
           try clear hcz81_0
           try clear hcz81_1
           try clear hcz85_0
           try clear hcz85_1
           try clear hcz88_0
           try clear hcz88_1
           try clear hcz90_0
           try clear hcz90_1
           try clear hcz96_0
           try clear hcz96_1
           try clear hfz100_0
           try clear hfz100_1
           try clear hfz103_0
           try clear hfz103_1
           try clear hfz105_0
           try clear hfz105_1
           try clear hfz106_0
           try clear hfz106_1
           try clear hfz15_0
           try clear hfz15_1
           try clear hfz17_0
           try clear hfz17_1
           try clear hfz19_0
           try clear hfz19_1
           try clear hfz25_0
           try clear hfz25_1
           try clear hfz27_0
           try clear hfz27_1
           try clear hfz28_0
           try clear hfz28_1
           try clear hfz30_0
           try clear hfz30_1
           try clear hfz37_0
           try clear hfz37_1
           try clear hfz41_0
           try clear hfz41_1
           try clear hfz45_0
           try clear hfz45_1
           try clear hfz53_0
           try clear hfz53_1
           try clear hfz61_0
           try clear hfz61_1
           try clear hfz65_0
           try clear hfz65_1
           try clear hfz71_0
           try clear hfz71_1
           try clear hfz75_0
           try clear hfz75_1
           try clear hfz81_0
           try clear hfz81_1
           try clear hfz85_0
           try clear hfz85_1
           try clear hfz88_0
           try clear hfz88_1
           try clear hfz90_0
           try clear hfz90_1
           try clear hfz96_0
           try clear hfz96_1
           try clear p2
           obtain ⟨kq,x113_108,rfl,HA,HJ108,BK377,BK386,BK387,BK397,BK398,HB⟩ := hcut
           cases kq with
           | zero=>exact absurd HA.out (by simp [gangsawlaw39_ProfileMeasures.j2])
           | succ kj108 =>
            have H:=HA.out;clear HA;simp only [gangsawlaw39_ProfileMeasures.j2] at H;by_cases c113 : x113_108 = true
            ·subst c113
             have H1 : (if t391 = 6 then (some (t390 == 0)) else (none)) = some r:=by rw [if_pos rfl] at H;exact H
             clear H;have H:=H1;clear H1;by_cases c114 : t391 = 6
             ·rw [if_pos c114] at H;have c114b0 : (t391 == 6) = true:=beq_iff_eq.mpr c114;have c114b1 : (t391 != 6) = false:=bne_eq_false_iff_eq.mpr c114;clear c114;obtain rfl:=Option.some.inj H
              go_wp2
              go_ret
              exact ⟨by first|rfl|(simp [errW_none,errW_some] <;> rfl)|(simp [*,errW_none,errW_some] <;> rfl),by repeat (first|(with_reducible first|exact HB.out|apply lA|apply lN|apply lD|refine lS ?_ GE377.out|refine lS ?_ GE386.out|refine lS ?_ GE387.out|refine lS ?_ GE397.out|refine lS ?_ GE398.out)|exact HB.out)⟩
             (rw [if_neg c114] at H;exact absurd H (by simp))
            ·replace c113:=Bool.eq_false_iff.mpr c113;subst c113
             have H1 : (if t383 > a1 then (if t391 = 12 then (some (t390 == 0)) else (none)) else (if t384 > a2 then (if t391 = 12 then (some (t390 == 0)) else (none)) else (if t391 = 0 then (some (t390 == (wrap64 ((wrap64 ((wrap64 (2 * a1)) * a2)) - t388)))) else (none)))) = some r:=by rw [if_neg (show ¬ (false = true) by decide)] at H;exact H
             clear H;have H:=H1;clear H1;by_cases c115 : t383 > a1
             ·rw [if_pos c115] at H;have c115b0 : decide (a1 < t383) = true:=decide_eq_true c115;clear c115;by_cases c116 : t391 = 12
              ·rw [if_pos c116] at H;have c116b0 : (t391 == 12) = true:=beq_iff_eq.mpr c116;have c116b1 : (t391 != 12) = false:=bne_eq_false_iff_eq.mpr c116;clear c116;obtain rfl:=Option.some.inj H;have hnb117:=NB387_377.out;have hnc117:=NB377_387.out;have hnb118:=NB387_386.out;have hnc118:=NB386_387.out;have hnb119:=NB387_397.out;have hnc119:=NB397_387.out;have hnb120:=NB387_398.out;have hnc120:=NB398_387.out;obtain ⟨hcz121_0,hcz121_1,hfz121_0,hfz121_1⟩ := c2_ BK387.out
               go_wp2
               go_ret
               exact ⟨by first|rfl|(simp [errW_none,errW_some] <;> rfl)|(simp [*,errW_none,errW_some] <;> rfl),by repeat (first|(with_reducible first|exact HB.out|apply lA|apply lN|apply lD|refine lS ?_ GE377.out|refine lS ?_ GE386.out|refine lS ?_ GE387.out|refine lS ?_ GE397.out|refine lS ?_ GE398.out)|exact HB.out)⟩
              (rw [if_neg c116] at H;exact absurd H (by simp))
             ·rw [if_neg c115] at H;have c115b0 : decide (a1 < t383) = false:=decide_eq_false c115;clear c115;by_cases c122 : t384 > a2
              ·rw [if_pos c122] at H;have c122b0 : decide (a2 < t384) = true:=decide_eq_true c122;clear c122;by_cases c123 : t391 = 12
               ·rw [if_pos c123] at H;have c123b0 : (t391 == 12) = true:=beq_iff_eq.mpr c123;have c123b1 : (t391 != 12) = false:=bne_eq_false_iff_eq.mpr c123;clear c123;obtain rfl:=Option.some.inj H;have hnb124:=NB387_377.out;have hnc124:=NB377_387.out;have hnb125:=NB387_386.out;have hnc125:=NB386_387.out;have hnb126:=NB387_397.out;have hnc126:=NB397_387.out;have hnb127:=NB387_398.out;have hnc127:=NB398_387.out;obtain ⟨hcz128_0,hcz128_1,hfz128_0,hfz128_1⟩ := c2_ BK387.out
                go_wp2
                go_ret
                exact ⟨by first|rfl|(simp [errW_none,errW_some] <;> rfl)|(simp [*,errW_none,errW_some] <;> rfl),by repeat (first|(with_reducible first|exact HB.out|apply lA|apply lN|apply lD|refine lS ?_ GE377.out|refine lS ?_ GE386.out|refine lS ?_ GE387.out|refine lS ?_ GE397.out|refine lS ?_ GE398.out)|exact HB.out)⟩
               (rw [if_neg c123] at H;exact absurd H (by simp))
              ·rw [if_neg c122] at H;have c122b0 : decide (a2 < t384) = false:=decide_eq_false c122;clear c122;by_cases c129 : t391 = 0
               ·rw [if_pos c129] at H;have c129b0 : (t391 == 0) = true:=beq_iff_eq.mpr c129;have c129b1 : (t391 != 0) = false:=bne_eq_false_iff_eq.mpr c129;clear c129;obtain rfl:=Option.some.inj H;have hnb130:=NB387_377.out;have hnc130:=NB377_387.out;have hnb131:=NB387_386.out;have hnc131:=NB386_387.out;have hnb132:=NB387_397.out;have hnc132:=NB397_387.out;have hnb133:=NB387_398.out;have hnc133:=NB398_387.out;obtain ⟨hcz134_0,hcz134_1,hfz134_0,hfz134_1⟩ := c2_ BK387.out
                go_wp2
                go_ret
                exact ⟨by first|rfl|(simp [errW_none,errW_some] <;> rfl)|(simp [*,errW_none,errW_some] <;> rfl),by repeat (first|(with_reducible first|exact HB.out|apply lA|apply lN|apply lD|refine lS ?_ GE377.out|refine lS ?_ GE386.out|refine lS ?_ GE387.out|refine lS ?_ GE397.out|refine lS ?_ GE398.out)|exact HB.out)⟩
               (rw [if_neg c129] at H;exact absurd H (by simp))
      ·rw [if_neg c48] at H;have c48b0 : (t380 == 0) = false:=beq_eq_false_iff_ne.mpr c48;have c48b1 : (t380 != 0) = true:=bne_iff_ne.mpr c48;by_cases c135 : t391 = t380
       ·rw [if_pos c135] at H;have c135b0 : (t391 == t380) = true:=beq_iff_eq.mpr c135;have c135b1 : (t391 != t380) = false:=bne_eq_false_iff_eq.mpr c135;clear c135;by_cases c136 : (t381 == 0 && (t382 == 0)) = true
        ·rw [if_pos c136] at H;have c136b0 : (t381 == 0 && (t382 == 0)) = true:=c136;(try (have c136b1 : decide (t381 = 0 && (t382 == 0)) = true:=by simpa using c136));(try (have c136b2 : (t381 == 0 && (t382 == 0)) = true:=by simpa using c136))
         clear c136;by_cases c137 : (t383 == 0 && (t384 == 0)) = true
         ·rw [if_pos c137] at H;have c137b0 : (t383 == 0 && (t384 == 0)) = true:=c137;(try (have c137b1 : decide (t383 = 0 && (t384 == 0)) = true:=by simpa using c137));(try (have c137b2 : (t383 == 0 && (t384 == 0)) = true:=by simpa using c137))
          clear c137;by_cases c138 : t388 = 0
          ·rw [if_pos c138] at H;have c138b0 : (t388 == 0) = true:=beq_iff_eq.mpr c138;have c138b1 : (t388 != 0) = false:=bne_eq_false_iff_eq.mpr c138;clear c138;obtain rfl:=Option.some.inj H;have hnb139:=NB386_377.out;have hnc139:=NB377_386.out;have hnb140:=NB386_387.out;have hnc140:=NB387_386.out;obtain ⟨hcz141_0,hcz141_1,hfz141_0,hfz141_1⟩ := c2_ BK386.out;have hnb142:=NB387_377.out;have hnc142:=NB377_387.out;obtain ⟨hcz143_0,hcz143_1,hfz143_0,hfz143_1⟩ := c2_ BK387.out
           go_wp2
           go_ret
           exact ⟨by first|rfl|(simp [errW_none,errW_some] <;> rfl)|(simp [*,errW_none,errW_some] <;> rfl),by repeat (first|(with_reducible first|exact HB.out|apply lA|apply lN|apply lD|refine lS ?_ GE377.out|refine lS ?_ GE386.out|refine lS ?_ GE387.out)|exact HB.out)⟩
          (rw [if_neg c138] at H;exact absurd H (by simp))
         (rw [if_neg c137] at H;exact absurd H (by simp))
        (rw [if_neg c136] at H;exact absurd H (by simp))
       (rw [if_neg c135] at H;exact absurd H (by simp))
  ·replace c7:=Bool.eq_false_iff.mpr c7;subst c7
   have H1 : (some true) = some r:=by rw [if_neg (show ¬ (false = true) by decide)] at H;exact H
   clear H;have H:=H1;clear H1;obtain rfl:=Option.some.inj H
   go_enter Try.func3,Try.ntmps3
   go_wp2_with (first|((with_reducible refine gate_dst (N:=3) rfl ?_);refine box_event ?hg (N:=3) ?hd (cs:=#[.string a0_0,.slice A0_1 l0_1.length c0_1]) (t:=25) ?hr ?_;(case hd=>rfl);(case hg=>rfl);(case hr=>first|(go_simp;done)|(go_simp;rfl));intro gb377 hg w144 hbox hb;have BK377:=am hbox;have GW377:=bza HB hg;have GE377:=bza HB hg;replace HB:=bsa HB hb;clear hb hbox hg)|((with_reducible refine gate_callee (f:=11) rfl ?_);refine goesL_ (some 17) rfl rfl Try.func11 (by kernel_rfl) rfl #[] rfl (by (try simp only [mT,mC,mN]);first|done|rfl|(simp only [lDr,lTk];rfl)) ?_;(with_reducible refine (gangsawlaw39_awake.calls k  true _ A4.out).mono ?_);rintro e w145 ⟨rfl,hb⟩;refine ⟨_,rfl, ?_⟩;replace BK377:=bba BK377 hb;replace HB:=bsa HB hb;(try clear hb);(try clear hb2);(try clear hk);(try clear hi);obtain ⟨hcz146_0,hcz146_1,hfz146_0,hfz146_1⟩ := c2_ BK377.out)|((with_reducible refine gate_callee (f:=12) rfl ?_);refine goesL_ (some 20) rfl rfl Try.func12 (by kernel_rfl) rfl #[.agg #[.string a0_0,.slice A0_1 l0_1.length c0_1]] rfl (by (try simp only [mT,mC,mN]);first|done|rfl|(simp only [lDr,lTk];rfl)) ?_;(with_reducible refine (gangsawref39_Short.calls a0_0 _ _ l0_1 false _ ?side1 ?side2 A6.out).mono ?_);(case side1=>exact cq HR0_1.out HB.out);(case side2=>exact HC0_1.out);rintro e w147 ⟨rfl,hb⟩;refine ⟨_,rfl, ?_⟩;replace BK377:=bba BK377 hb;replace HB:=bsa HB hb;(try clear hb);(try clear hb2);(try clear hk);(try clear hi)))
   go_ret
   exact ⟨by first|rfl|(simp [errW_none,errW_some] <;> rfl)|(simp [*,errW_none,errW_some] <;> rfl),by repeat (first|(with_reducible first|exact HB.out|apply lA|apply lN|apply lD|refine lS ?_ GE377.out)|exact HB.out)⟩
 ·replace c5:=Bool.eq_false_iff.mpr c5;subst c5
  have H1 : (none) = some r:=by rw [if_neg (show ¬ (false = true) by decide)] at H;exact H
  clear H;have H:=H1;clear H1;exact absurd H (by simp)
end
end Go.Proofs.Ytnjikioimompnaa.PA
