import Derived.Test.YtnjikioimompnaaGh
namespace Go.Proofs.Ytnjikioimompnaa.PA
open Go.RowKit Go.Proofs.YtnjikioimompnaaW.PrintWords Go.Proofs.YtnjikioimompnaaW.PrintLast Go.Proofs.YtnjikioimompnaaW.PrintMore
attribute [local go_sem] max2_int min2_int max_two min_two max_three min_three max_four min_four
set_option linter.unusedVariables false
set_option linter.unusedSimpArgs false
noncomputable section
attribute [local go_sem high] eqA31
def profile_Area.f (k : Nat) (a0_0 : ByteArray) (l0_1 : List (S31)) : Option (Int × Int):=(profile_Check.f k a0_0 l0_1).bind fun t172=>(if t172 = 0 then ((profile_area.f k l0_1).bind fun t173=>(some (t173,0))) else (some (0,t172)))
theorem profile_Area.mono : ∀ a0 a1 k,LeO (profile_Area.f k a0 a1) (profile_Area.f (k + 1) a0 a1):=by
 intro a0 a1 k
 unfold profile_Area.f
 repeat' first
   | (with_reducible exact profile_Check.mono _ _ _)
   | (with_reducible exact profile_area.mono _ _)
   | (with_reducible exact LeO.refl _)
   | (with_reducible exact LeO.none _)
   | (with_reducible refine LeO.ite ?_ ?_)
   | (with_reducible refine LeO.bind ?_ (fun _=>?_))
   | exact profile_Check.mono _ _ _
   | exact profile_area.mono _ _
   | exact LeO.none _
   | refine LeO.ite ?_ ?_
   | refine LeO.bind ?_ (fun _=>?_)
set_option maxHeartbeats 8000000 in
set_option maxRecDepth 100000 in
theorem profile_Area.calls (k : Nat) (a0_0 : ByteArray) (A0_1 : Option Addr) (c0_1 : Nat) (l0_1 : List (S31)) (r1 : Int) (r2 : Int) (w : World) (hr0_1 : Kd.C k31 w A0_1 l0_1.length l0_1) (hc0_1 : l0_1.length ≤ c0_1) (h : profile_Area.f k a0_0 l0_1 = some (r1, r2)) :
  Calls Try.prog 15 #[.agg #[.string a0_0,.slice A0_1 l0_1.length c0_1]] w fun e w'=>e = .returned (.tuple #[.int .i64 r1,.int .i64 r2]) ∧ Below w.heap.size w w':=by
 have hu25:=Try.underlying25;have HR0_1:=am hr0_1;have HC0_1:=am hc0_1;clear hr0_1 hc0_1;have HB:=am (Below.refl w.heap.size w);have H : ((profile_Check.f k a0_0 l0_1).bind fun t172=>(if t172 = 0 then ((profile_area.f k l0_1).bind fun t173=>(some (t173,0))) else (some (0,t172)))) = some (r1,r2):=h;clear h;replace H:=Option.bind_eq_some_iff.mp H;obtain ⟨t172,A20,H⟩ := H;replace H : (if t172 = 0 then ((profile_area.f k l0_1).bind fun t173=>(some (t173,0))) else (some (0,t172))) = some (r1,r2):=H;have A2:=am A20;clear A20;by_cases c3 : t172 = 0
 ·rw [if_pos c3] at H;have c3b0 : (t172 == 0) = true:=beq_iff_eq.mpr c3;have c3b1 : (t172 != 0) = false:=bne_eq_false_iff_eq.mpr c3;clear c3;replace H:=Option.bind_eq_some_iff.mp H;obtain ⟨t173,A40,H⟩ := H;replace H : (some (t173,0)) = some (r1,r2):=H;have A4:=am A40;clear A40;simp only [Option.some.injEq,Prod.mk.injEq] at H;obtain ⟨rfl,rfl⟩ := H
  go_enter Try.func15,Try.ntmps15
  go_wp2_with (first|((with_reducible refine gate_dst (N:=1) rfl ?_);refine box_event ?hg (N:=1) ?hd (cs:=#[.string a0_0,.slice A0_1 l0_1.length c0_1]) (t:=25) ?hr ?_;(case hd=>rfl);(case hg=>rfl);(case hr=>first|(go_simp;done)|(go_simp;rfl));intro gb171 hg w5 hbox hb;have BK171:=am hbox;have GW171:=bza HB hg;have GE171:=bza HB hg;replace HB:=bsa HB hb;clear hb hbox hg;obtain ⟨hcz6_0,hcz6_1,hfz6_0,hfz6_1⟩ := c2_ BK171.out)|((with_reducible refine gate_callee (f:=17) rfl ?_);refine goesL_ (some 6) rfl rfl Try.func17 (by kernel_rfl) rfl #[.agg #[.string a0_0,.slice A0_1 l0_1.length c0_1]] rfl (by (try simp only [mT,mC,mN]);first|done|rfl|(simp only [lDr,lTk];rfl)) ?_;(with_reducible refine (profile_Check.calls k a0_0 _ _ l0_1 t172 _ ?side1 ?side2 A2.out).mono ?_);(case side1=>exact cq HR0_1.out HB.out);(case side2=>exact HC0_1.out);rintro e w7 ⟨rfl,hb⟩;refine ⟨_,rfl, ?_⟩;replace BK171:=bba BK171 hb;replace HB:=bsa HB hb;(try clear hb);(try clear hb2);(try clear hk);(try clear hi);obtain ⟨hcz8_0,hcz8_1,hfz8_0,hfz8_1⟩ := c2_ BK171.out)|((with_reducible refine gate_callee (f:=37) rfl ?_);refine goesL_ (some 12) rfl rfl Try.func37 (by kernel_rfl) rfl #[.slice A0_1 l0_1.length c0_1] rfl (by (try simp only [mT,mC,mN]);first|done|rfl|(simp only [lDr,lTk];rfl)) ?_;(with_reducible refine (profile_area.calls k _ _ l0_1 t173 _ ?side1 ?side2 A4.out).mono ?_);(case side1=>exact cq HR0_1.out HB.out);(case side2=>exact HC0_1.out);rintro e w9 ⟨rfl,hb⟩;refine ⟨_,rfl, ?_⟩;replace BK171:=bba BK171 hb;replace HB:=bsa HB hb;(try clear hb);(try clear hb2);(try clear hk);(try clear hi)))
  go_ret2
  exact ⟨by first|rfl|(simp [errW_none,errW_some] <;> rfl)|(simp [*,errW_none,errW_some] <;> rfl),by repeat (first|(with_reducible first|exact HB.out|apply lA|apply lN|apply lD|refine lS ?_ GE171.out)|exact HB.out)⟩
 ·rw [if_neg c3] at H;have c3b0 : (t172 == 0) = false:=beq_eq_false_iff_ne.mpr c3;have c3b1 : (t172 != 0) = true:=bne_iff_ne.mpr c3;simp only [Option.some.injEq,Prod.mk.injEq] at H;obtain ⟨rfl,rfl⟩ := H
  go_enter Try.func15,Try.ntmps15
  go_wp2_with (first|((with_reducible refine gate_dst (N:=1) rfl ?_);refine box_event ?hg (N:=1) ?hd (cs:=#[.string a0_0,.slice A0_1 l0_1.length c0_1]) (t:=25) ?hr ?_;(case hd=>rfl);(case hg=>rfl);(case hr=>first|(go_simp;done)|(go_simp;rfl));intro gb171 hg w10 hbox hb;have BK171:=am hbox;have GW171:=bza HB hg;have GE171:=bza HB hg;replace HB:=bsa HB hb;clear hb hbox hg;obtain ⟨hcz11_0,hcz11_1,hfz11_0,hfz11_1⟩ := c2_ BK171.out)|((with_reducible refine gate_callee (f:=17) rfl ?_);refine goesL_ (some 6) rfl rfl Try.func17 (by kernel_rfl) rfl #[.agg #[.string a0_0,.slice A0_1 l0_1.length c0_1]] rfl (by (try simp only [mT,mC,mN]);first|done|rfl|(simp only [lDr,lTk];rfl)) ?_;(with_reducible refine (profile_Check.calls k a0_0 _ _ l0_1 t172 _ ?side1 ?side2 A2.out).mono ?_);(case side1=>exact cq HR0_1.out HB.out);(case side2=>exact HC0_1.out);rintro e w12 ⟨rfl,hb⟩;refine ⟨_,rfl, ?_⟩;replace BK171:=bba BK171 hb;replace HB:=bsa HB hb;(try clear hb);(try clear hb2);(try clear hk);(try clear hi)))
  go_ret2
  exact ⟨by first|rfl|(simp [errW_none,errW_some] <;> rfl)|(simp [*,errW_none,errW_some] <;> rfl),by repeat (first|(with_reducible first|exact HB.out|apply lA|apply lN|apply lD|refine lS ?_ GE171.out)|exact HB.out)⟩
def profile_Waste.j0 : Nat → Int → Int → Bool → ByteArray → List (S31) → Option (Int × Int)
 | 0,_,_,_,_,_=>none
 | k + 1,x1,x2,x29,x175000,x175001=>if x29 = true then (some (0,6)) else ((profile_bounds.f k x175001).bind fun bt176=>(if bt176.2.2.1 > x1 then (some (0,12)) else (if bt176.2.2.2 > x2 then (some (0,12)) else ((profile_area.f k x175001).bind fun t182=>(some (wrap64 ((wrap64 ((wrap64 (2 * x1)) * x2)) - t182),0))))))
def profile_Waste.f (k : Nat) (a0_0 : ByteArray) (l0_1 : List (S31)) (a1 : Int) (a2 : Int) : Option (Int × Int):=(profile_Check.f k a0_0 l0_1).bind fun t175=>(if t175 = 0 then (if a1 < 1 then (profile_Waste.j0 k a1 a2 true a0_0 l0_1) else (if a1 > 2000000 then (profile_Waste.j0 k a1 a2 true a0_0 l0_1) else (if a2 < 1 then (profile_Waste.j0 k a1 a2 true a0_0 l0_1) else (profile_Waste.j0 k a1 a2 (decide (a2 > 2000000)) a0_0 l0_1)))) else (some (0,t175)))
theorem profile_Waste.mono_l : ∀ k,(∀ y0 y1 y2 y3 y4,LeO (profile_Waste.j0 k y0 y1 y2 y3 y4) (profile_Waste.j0 (k + 1) y0 y1 y2 y3 y4))
 | 0=>fun _ _ _ _ _ r h=>by simp [profile_Waste.j0] at h
 | k + 1=>by
  have ih0:=profile_Waste.mono_l k
  ·intro y0 y1 y2 y3 y4
   unfold profile_Waste.j0
   repeat' first
   | (with_reducible exact ih0 _ _ _ _ _)
   | (with_reducible exact profile_Check.mono _ _ _)
   | (with_reducible exact profile_area.mono _ _)
   | (with_reducible exact profile_bounds.mono _ _)
   | (with_reducible exact LeO.refl _)
   | (with_reducible exact LeO.none _)
   | (with_reducible refine LeO.ite ?_ ?_)
   | (with_reducible refine LeO.bind ?_ (fun _=>?_))
   | exact ih0 _ _ _ _ _
   | exact profile_Check.mono _ _ _
   | exact profile_area.mono _ _
   | exact profile_bounds.mono _ _
   | exact LeO.none _
   | refine LeO.ite ?_ ?_
   | refine LeO.bind ?_ (fun _=>?_)
theorem profile_Waste.mono : ∀ a0 a1 a2 a3 k,LeO (profile_Waste.f k a0 a1 a2 a3) (profile_Waste.f (k + 1) a0 a1 a2 a3):=by
 intro a0 a1 a2 a3 k;have ih0:=profile_Waste.mono_l k
 unfold profile_Waste.f
 repeat' first
   | (with_reducible exact ih0 _ _ _ _ _)
   | (with_reducible exact profile_Check.mono _ _ _)
   | (with_reducible exact profile_area.mono _ _)
   | (with_reducible exact profile_bounds.mono _ _)
   | (with_reducible exact LeO.refl _)
   | (with_reducible exact LeO.none _)
   | (with_reducible refine LeO.ite ?_ ?_)
   | (with_reducible refine LeO.bind ?_ (fun _=>?_))
   | exact ih0 _ _ _ _ _
   | exact profile_Check.mono _ _ _
   | exact profile_area.mono _ _
   | exact profile_bounds.mono _ _
   | exact LeO.none _
   | refine LeO.ite ?_ ?_
   | refine LeO.bind ?_ (fun _=>?_)
set_option maxHeartbeats 8000000 in
set_option maxRecDepth 100000 in
theorem profile_Waste.calls (k : Nat) (a0_0 : ByteArray) (A0_1 : Option Addr) (c0_1 : Nat) (l0_1 : List (S31)) (a1 : Int) (a2 : Int) (r1 : Int) (r2 : Int) (w : World) (hr0_1 : Kd.C k31 w A0_1 l0_1.length l0_1) (hc0_1 : l0_1.length ≤ c0_1) (h : profile_Waste.f k a0_0 l0_1 a1 a2 = some (r1, r2)) :
  Calls Try.prog 16 #[.agg #[.string a0_0,.slice A0_1 l0_1.length c0_1],.int .i64 a1,.int .i64 a2] w fun e w'=>e = .returned (.tuple #[.int .i64 r1,.int .i64 r2]) ∧ Below w.heap.size w w':=by
 have hu25:=Try.underlying25;have hu31:=Try.underlying31;have HR0_1:=am hr0_1;have HC0_1:=am hc0_1;clear hr0_1 hc0_1;have HB:=am (Below.refl w.heap.size w);have H : ((profile_Check.f k a0_0 l0_1).bind fun t175=>(if t175 = 0 then (if a1 < 1 then (profile_Waste.j0 k a1 a2 true a0_0 l0_1) else (if a1 > 2000000 then (profile_Waste.j0 k a1 a2 true a0_0 l0_1) else (if a2 < 1 then (profile_Waste.j0 k a1 a2 true a0_0 l0_1) else (profile_Waste.j0 k a1 a2 (decide (a2 > 2000000)) a0_0 l0_1)))) else (some (0,t175)))) = some (r1,r2):=h;clear h;replace H:=Option.bind_eq_some_iff.mp H;obtain ⟨t175,A40,H⟩ := H;replace H : (if t175 = 0 then (if a1 < 1 then (profile_Waste.j0 k a1 a2 true a0_0 l0_1) else (if a1 > 2000000 then (profile_Waste.j0 k a1 a2 true a0_0 l0_1) else (if a2 < 1 then (profile_Waste.j0 k a1 a2 true a0_0 l0_1) else (profile_Waste.j0 k a1 a2 (decide (a2 > 2000000)) a0_0 l0_1)))) else (some (0,t175))) = some (r1,r2):=H;have A4:=am A40;clear A40;by_cases c5 : t175 = 0
 ·rw [if_pos c5] at H;have c5b0 : (t175 == 0) = true:=beq_iff_eq.mpr c5;have c5b1 : (t175 != 0) = false:=bne_eq_false_iff_eq.mpr c5;clear c5;have HC6:=am H;clear H
  go_enter Try.func16,Try.ntmps16
  go_upto_region 4 with (first|((with_reducible refine gate_dst (N:=3) rfl ?_);refine box_event ?hg (N:=3) ?hd (cs:=#[.string a0_0,.slice A0_1 l0_1.length c0_1]) (t:=25) ?hr ?_;(case hd=>rfl);(case hg=>rfl);(case hr=>first|(go_simp;done)|(go_simp;rfl));intro gb174 hg w7 hbox hb;have BK174:=am hbox;have GW174:=bza HB hg;have GE174:=bza HB hg;replace HB:=bsa HB hb;clear hb hbox hg;obtain ⟨hcz8_0,hcz8_1,hfz8_0,hfz8_1⟩ := c2_ BK174.out)|((with_reducible refine gate_callee (f:=17) rfl ?_);refine goesL_ (some 12) rfl rfl Try.func17 (by kernel_rfl) rfl #[.agg #[.string a0_0,.slice A0_1 l0_1.length c0_1]] rfl (by (try simp only [mT,mC,mN]);first|done|rfl|(simp only [lDr,lTk];rfl)) ?_;(with_reducible refine (profile_Check.calls k a0_0 _ _ l0_1 t175 _ ?side1 ?side2 A4.out).mono ?_);(case side1=>exact cq HR0_1.out HB.out);(case side2=>exact HC0_1.out);rintro e w9 ⟨rfl,hb⟩;refine ⟨_,rfl, ?_⟩;replace BK174:=bba BK174 hb;replace HB:=bsa HB hb;(try clear hb);(try clear hb2);(try clear hk);(try clear hi)))
  (try simp only [Act.put,sA,s0,sS])
  go_cut [29] (fun v29 wc=>∃ (kq : Nat) (x29_5 : Bool),v29 = .bool x29_5 ∧ Aside0 (profile_Waste.j0 kq a1 a2 x29_5 a0_0 l0_1 = some (r1,r2)) ∧ Aside0 (kq ≤ k) ∧ Aside0 (wc.heap[gb174]? = some (.cells #[.string a0_0,(.slice A0_1 l0_1.length c0_1)] 25 (0,0))) ∧ Aside0 (Below w.heap.size w wc))
  case first =>
   have H:=HC6.out;clear HC6;by_cases c10 : a1 < 1
   ·rw [if_pos c10] at H;have c10b0 : decide (a1 < 1) = true:=decide_eq_true c10;clear c10;(first|rw [c10b0]|(simp only [i64_w,i32_w];rw [c10b0])|skip);have H':=am H;clear H
    go_wp2
    go_meet
    case rel=>exact ⟨_,(true),(by first|rfl|(simp;done)|(simp [*];done)),H',⟨by first|omega|exact Nat.le_refl _⟩,⟨bq BK174.out⟩,⟨by repeat (first|(with_reducible first|exact HB.out|apply lA|apply lN|apply lD|refine lS ?_ GE174.out)|exact HB.out)⟩⟩
   ·rw [if_neg c10] at H;have c10b0 : decide (a1 < 1) = false:=decide_eq_false c10;clear c10;(first|rw [c10b0]|(simp only [i64_w,i32_w];rw [c10b0])|skip)
    by_cases c11 : a1 > 2000000
    ·rw [if_pos c11] at H;have c11b0 : decide (2000000 < a1) = true:=decide_eq_true c11;clear c11;have H':=am H;clear H
     go_wp2
     go_meet
     case rel=>exact ⟨_,(true),(by first|rfl|(simp;done)|(simp [*];done)),H',⟨by first|omega|exact Nat.le_refl _⟩,⟨bq BK174.out⟩,⟨by repeat (first|(with_reducible first|exact HB.out|apply lA|apply lN|apply lD|refine lS ?_ GE174.out)|exact HB.out)⟩⟩
    ·rw [if_neg c11] at H;have c11b0 : decide (2000000 < a1) = false:=decide_eq_false c11;clear c11;by_cases c12 : a2 < 1
     ·rw [if_pos c12] at H;have c12b0 : decide (a2 < 1) = true:=decide_eq_true c12;clear c12;have H':=am H;clear H
      go_wp2
      go_meet
      case rel=>exact ⟨_,(true),(by first|rfl|(simp;done)|(simp [*];done)),H',⟨by first|omega|exact Nat.le_refl _⟩,⟨bq BK174.out⟩,⟨by repeat (first|(with_reducible first|exact HB.out|apply lA|apply lN|apply lD|refine lS ?_ GE174.out)|exact HB.out)⟩⟩
     ·rw [if_neg c12] at H;have c12b0 : decide (a2 < 1) = false:=decide_eq_false c12;clear c12;have H':=am H;clear H
      go_wp2
      go_meet
      case rel=>exact ⟨_,(decide (a2 > 2000000)),(by first|rfl|(simp;done)|(simp [*];done)),H',⟨by first|omega|exact Nat.le_refl _⟩,⟨bq BK174.out⟩,⟨by repeat (first|(with_reducible first|exact HB.out|apply lA|apply lN|apply lD|refine lS ?_ GE174.out)|exact HB.out)⟩⟩
  case rest =>
   clear HC6
   try clear c1
   try clear p2
   try clear c5
   try clear c5b0
   try clear c5b1
   try clear c10
   try clear c10b0
   try clear c11
   try clear c11b0
   try clear c12
   try clear c12b0
   try clear hcz8_0
   try clear hcz8_1
   try clear hfz8_0
   try clear hfz8_1
   obtain ⟨kq,x29_5,rfl,HA,HJ5,BK174,HB⟩ := hcut
   cases kq with
   | zero=>exact absurd HA.out (by simp [profile_Waste.j0])
   | succ kj5 =>
    have H:=HA.out;clear HA;simp only [profile_Waste.j0] at H;by_cases c13 : x29_5 = true
    ·subst c13
     have H1 : (some (0,6)) = some (r1,r2):=by rw [if_pos rfl] at H;exact H
     clear H;have H:=H1;clear H1;simp only [Option.some.injEq,Prod.mk.injEq] at H;obtain ⟨rfl,rfl⟩ := H
     go_wp2
     go_ret2
     exact ⟨by first|rfl|(simp [errW_none,errW_some] <;> rfl)|(simp [*,errW_none,errW_some] <;> rfl),by repeat (first|(with_reducible first|exact HB.out|apply lA|apply lN|apply lD|refine lS ?_ GE174.out)|exact HB.out)⟩
    ·replace c13:=Bool.eq_false_iff.mpr c13;subst c13
     have H1 : ((profile_bounds.f kj5 l0_1).bind fun bt176=>(if bt176.2.2.1 > a1 then (some (0,12)) else (if bt176.2.2.2 > a2 then (some (0,12)) else ((profile_area.f kj5 l0_1).bind fun t182=>(some (wrap64 ((wrap64 ((wrap64 (2 * a1)) * a2)) - t182),0)))))) = some (r1,r2):=by rw [if_neg (show ¬ (false = true) by decide)] at H;exact H
     clear H;have H:=H1;clear H1;replace H:=Option.bind_eq_some_iff.mp H;obtain ⟨⟨t176,t177,t178,t179⟩,A140,H⟩ := H;replace H : (if t178 > a1 then (some (0,12)) else (if t179 > a2 then (some (0,12)) else ((profile_area.f kj5 l0_1).bind fun t182=>(some (wrap64 ((wrap64 ((wrap64 (2 * a1)) * a2)) - t182),0))))) = some (r1,r2):=H;have A14:=am A140;clear A140;by_cases c15 : t178 > a1
     ·rw [if_pos c15] at H;have c15b0 : decide (a1 < t178) = true:=decide_eq_true c15;clear c15;simp only [Option.some.injEq,Prod.mk.injEq] at H;obtain ⟨rfl,rfl⟩ := H;obtain ⟨hcz16_0,hcz16_1,hfz16_0,hfz16_1⟩ := c2_ BK174.out
      go_wp2_with (first|((with_reducible refine gate_callee (f:=36) rfl ?_);refine goesL_ (some 33) rfl rfl Try.func36 (by kernel_rfl) rfl #[.slice A0_1 l0_1.length c0_1] rfl (by (try simp only [mT,mC,mN]);first|done|rfl|(simp only [lDr,lTk];rfl)) ?_;(with_reducible refine (profile_bounds.calls kj5 _ _ l0_1 t176 t177 t178 t179 _ ?side1 ?side2 A14.out).mono ?_);(case side1=>exact cq HR0_1.out HB.out);(case side2=>exact HC0_1.out);rintro e w17 ⟨rfl,hb⟩;refine ⟨_,rfl, ?_⟩;replace BK174:=bba BK174 hb;replace HB:=bsa HB hb;(try clear hb);(try clear hb2);(try clear hk);(try clear hi))|((with_reducible refine gate_dst (N:=9) rfl ?_);refine box_event ?hg (N:=9) ?hd (cs:=#[.int .i64 0,.int .i64 0]) (t:=31) ?hr ?_;(case hd=>rfl);(case hg=>rfl);(case hr=>first|(go_simp;done)|(go_simp;rfl));intro gb180 hg w18 hbox hb;have BK180:=am hbox;have GW180:=bza HB hg;have GE180:=bza HB hg;have NB174_180:=bla BK174 hg;have NB180_174:=bga BK174 hg;replace BK174:=bba BK174 hb;replace HB:=bsa HB hb;clear hb hbox hg)|((with_reducible refine gate_dst (N:=10) rfl ?_);refine box_event ?hg (N:=10) ?hd (cs:=#[.int .i64 0,.int .i64 0]) (t:=31) ?hr ?_;(case hd=>rfl);(case hg=>rfl);(case hr=>first|(go_simp;done)|(go_simp;rfl));intro gb181 hg w19 hbox hb;have BK181:=am hbox;have GW181:=bza HB hg;have GE181:=bza HB hg;have NB174_181:=bla BK174 hg;have NB181_174:=bga BK174 hg;have NB180_181:=bla BK180 hg;have NB181_180:=bga BK180 hg;replace BK174:=bba BK174 hb;replace BK180:=bba BK180 hb;replace HB:=bsa HB hb;clear hb hbox hg;have hnb20:=NB180_174.out;have hnc20:=NB174_180.out;have hnb21:=NB180_181.out;have hnc21:=NB181_180.out;obtain ⟨hcz22_0,hcz22_1,hfz22_0,hfz22_1⟩ := c2_ BK180.out;have hnb23:=NB181_174.out;have hnc23:=NB174_181.out;obtain ⟨hcz24_0,hcz24_1,hfz24_0,hfz24_1⟩ := c2_ BK181.out))
      go_ret2
      exact ⟨by first|rfl|(simp [errW_none,errW_some] <;> rfl)|(simp [*,errW_none,errW_some] <;> rfl),by repeat (first|(with_reducible first|exact HB.out|apply lA|apply lN|apply lD|refine lS ?_ GE174.out|refine lS ?_ GE180.out|refine lS ?_ GE181.out)|exact HB.out)⟩
     ·rw [if_neg c15] at H;have c15b0 : decide (a1 < t178) = false:=decide_eq_false c15;clear c15;by_cases c25 : t179 > a2
      ·rw [if_pos c25] at H;have c25b0 : decide (a2 < t179) = true:=decide_eq_true c25;clear c25;simp only [Option.some.injEq,Prod.mk.injEq] at H;obtain ⟨rfl,rfl⟩ := H;obtain ⟨hcz26_0,hcz26_1,hfz26_0,hfz26_1⟩ := c2_ BK174.out
       go_wp2_with (first|((with_reducible refine gate_callee (f:=36) rfl ?_);refine goesL_ (some 33) rfl rfl Try.func36 (by kernel_rfl) rfl #[.slice A0_1 l0_1.length c0_1] rfl (by (try simp only [mT,mC,mN]);first|done|rfl|(simp only [lDr,lTk];rfl)) ?_;(with_reducible refine (profile_bounds.calls kj5 _ _ l0_1 t176 t177 t178 t179 _ ?side1 ?side2 A14.out).mono ?_);(case side1=>exact cq HR0_1.out HB.out);(case side2=>exact HC0_1.out);rintro e w27 ⟨rfl,hb⟩;refine ⟨_,rfl, ?_⟩;replace BK174:=bba BK174 hb;replace HB:=bsa HB hb;(try clear hb);(try clear hb2);(try clear hk);(try clear hi))|((with_reducible refine gate_dst (N:=9) rfl ?_);refine box_event ?hg (N:=9) ?hd (cs:=#[.int .i64 0,.int .i64 0]) (t:=31) ?hr ?_;(case hd=>rfl);(case hg=>rfl);(case hr=>first|(go_simp;done)|(go_simp;rfl));intro gb180 hg w28 hbox hb;have BK180:=am hbox;have GW180:=bza HB hg;have GE180:=bza HB hg;have NB174_180:=bla BK174 hg;have NB180_174:=bga BK174 hg;replace BK174:=bba BK174 hb;replace HB:=bsa HB hb;clear hb hbox hg)|((with_reducible refine gate_dst (N:=10) rfl ?_);refine box_event ?hg (N:=10) ?hd (cs:=#[.int .i64 0,.int .i64 0]) (t:=31) ?hr ?_;(case hd=>rfl);(case hg=>rfl);(case hr=>first|(go_simp;done)|(go_simp;rfl));intro gb181 hg w29 hbox hb;have BK181:=am hbox;have GW181:=bza HB hg;have GE181:=bza HB hg;have NB174_181:=bla BK174 hg;have NB181_174:=bga BK174 hg;have NB180_181:=bla BK180 hg;have NB181_180:=bga BK180 hg;replace BK174:=bba BK174 hb;replace BK180:=bba BK180 hb;replace HB:=bsa HB hb;clear hb hbox hg;have hnb30:=NB180_174.out;have hnc30:=NB174_180.out;have hnb31:=NB180_181.out;have hnc31:=NB181_180.out;obtain ⟨hcz32_0,hcz32_1,hfz32_0,hfz32_1⟩ := c2_ BK180.out;have hnb33:=NB181_174.out;have hnc33:=NB174_181.out;obtain ⟨hcz34_0,hcz34_1,hfz34_0,hfz34_1⟩ := c2_ BK181.out))
       go_ret2
       exact ⟨by first|rfl|(simp [errW_none,errW_some] <;> rfl)|(simp [*,errW_none,errW_some] <;> rfl),by repeat (first|(with_reducible first|exact HB.out|apply lA|apply lN|apply lD|refine lS ?_ GE174.out|refine lS ?_ GE180.out|refine lS ?_ GE181.out)|exact HB.out)⟩
      ·rw [if_neg c25] at H;have c25b0 : decide (a2 < t179) = false:=decide_eq_false c25;clear c25;replace H:=Option.bind_eq_some_iff.mp H;obtain ⟨t182,A350,H⟩ := H;replace H : (some (wrap64 ((wrap64 ((wrap64 (2 * a1)) * a2)) - t182),0)) = some (r1,r2):=H;have A35:=am A350;clear A350;simp only [Option.some.injEq,Prod.mk.injEq] at H;obtain ⟨rfl,rfl⟩ := H;obtain ⟨hcz36_0,hcz36_1,hfz36_0,hfz36_1⟩ := c2_ BK174.out
       go_wp2_with (first|((with_reducible refine gate_callee (f:=36) rfl ?_);refine goesL_ (some 33) rfl rfl Try.func36 (by kernel_rfl) rfl #[.slice A0_1 l0_1.length c0_1] rfl (by (try simp only [mT,mC,mN]);first|done|rfl|(simp only [lDr,lTk];rfl)) ?_;(with_reducible refine (profile_bounds.calls kj5 _ _ l0_1 t176 t177 t178 t179 _ ?side1 ?side2 A14.out).mono ?_);(case side1=>exact cq HR0_1.out HB.out);(case side2=>exact HC0_1.out);rintro e w37 ⟨rfl,hb⟩;refine ⟨_,rfl, ?_⟩;replace BK174:=bba BK174 hb;replace HB:=bsa HB hb;(try clear hb);(try clear hb2);(try clear hk);(try clear hi))|((with_reducible refine gate_dst (N:=9) rfl ?_);refine box_event ?hg (N:=9) ?hd (cs:=#[.int .i64 0,.int .i64 0]) (t:=31) ?hr ?_;(case hd=>rfl);(case hg=>rfl);(case hr=>first|(go_simp;done)|(go_simp;rfl));intro gb180 hg w38 hbox hb;have BK180:=am hbox;have GW180:=bza HB hg;have GE180:=bza HB hg;have NB174_180:=bla BK174 hg;have NB180_174:=bga BK174 hg;replace BK174:=bba BK174 hb;replace HB:=bsa HB hb;clear hb hbox hg)|((with_reducible refine gate_dst (N:=10) rfl ?_);refine box_event ?hg (N:=10) ?hd (cs:=#[.int .i64 0,.int .i64 0]) (t:=31) ?hr ?_;(case hd=>rfl);(case hg=>rfl);(case hr=>first|(go_simp;done)|(go_simp;rfl));intro gb181 hg w39 hbox hb;have BK181:=am hbox;have GW181:=bza HB hg;have GE181:=bza HB hg;have NB174_181:=bla BK174 hg;have NB181_174:=bga BK174 hg;have NB180_181:=bla BK180 hg;have NB181_180:=bga BK180 hg;replace BK174:=bba BK174 hb;replace BK180:=bba BK180 hb;replace HB:=bsa HB hb;clear hb hbox hg;have hnb40:=NB180_174.out;have hnc40:=NB174_180.out;have hnb41:=NB180_181.out;have hnc41:=NB181_180.out;obtain ⟨hcz42_0,hcz42_1,hfz42_0,hfz42_1⟩ := c2_ BK180.out;have hnb43:=NB181_174.out;have hnc43:=NB174_181.out;obtain ⟨hcz44_0,hcz44_1,hfz44_0,hfz44_1⟩ := c2_ BK181.out;obtain ⟨hcz45_0,hcz45_1,hfz45_0,hfz45_1⟩ := c2_ BK174.out)|((with_reducible refine gate_callee (f:=37) rfl ?_);refine goesL_ (some 52) rfl rfl Try.func37 (by kernel_rfl) rfl #[.slice A0_1 l0_1.length c0_1] rfl (by (try simp only [mT,mC,mN]);first|done|rfl|(simp only [lDr,lTk];rfl)) ?_;(with_reducible refine (profile_area.calls kj5 _ _ l0_1 t182 _ ?side1 ?side2 A35.out).mono ?_);(case side1=>exact Kd.C_below HR0_1.out (by repeat (first|(with_reducible first|exact HB.out|apply lA|apply lN|apply lD|refine lS ?_ GE174.out|refine lS ?_ GE180.out|refine lS ?_ GE181.out)|exact HB.out)));(case side2=>exact HC0_1.out);rintro e w46 ⟨rfl,hb⟩;refine ⟨_,rfl, ?_⟩;replace BK174:=am (blk_below (g:=gb174) (o:=.cells #[.string a0_0,.slice A0_1 l0_1.length c0_1] 25 (0,0)) (by (with_reducible repeat (first|apply bN|apply bD|apply bA));refine blk_far ?_ NB174_181.out _;(with_reducible repeat (first|apply bN|apply bD|apply bA));refine blk_far ?_ NB174_181.out _;(with_reducible repeat (first|apply bN|apply bD|apply bA));refine blk_far ?_ NB174_180.out _;(with_reducible repeat (first|apply bN|apply bD|apply bA));refine blk_far ?_ NB174_180.out _;(with_reducible repeat (first|apply bN|apply bD|apply bA));exact BK174.out) hb);replace BK180:=am (blk_below (g:=gb180) (o:=.cells #[.int .i64 t176,.int .i64 t177] 31 (0,0)) (by (with_reducible repeat (first|apply bN|apply bD|apply bA));refine blk_far ?_ NB180_181.out _;(with_reducible repeat (first|apply bN|apply bD|apply bA));refine blk_far ?_ NB180_181.out _;(with_reducible repeat (first|apply bN|apply bD|apply bA));refine blk_put (cs:=#[.int .i64 t176,.int .i64 0]) ?_ 1 _ rfl;(with_reducible repeat (first|apply bN|apply bD|apply bA));refine blk_put (cs:=#[.int .i64 0,.int .i64 0]) ?_ 0 _ rfl;(with_reducible repeat (first|apply bN|apply bD|apply bA));exact BK180.out) hb);replace BK181:=am (blk_below (g:=gb181) (o:=.cells #[.int .i64 t178,.int .i64 t179] 31 (0,0)) (by (with_reducible repeat (first|apply bN|apply bD|apply bA));refine blk_put (cs:=#[.int .i64 t178,.int .i64 0]) ?_ 1 _ rfl;(with_reducible repeat (first|apply bN|apply bD|apply bA));refine blk_put (cs:=#[.int .i64 0,.int .i64 0]) ?_ 0 _ rfl;(with_reducible repeat (first|apply bN|apply bD|apply bA));refine blk_far ?_ NB181_180.out _;(with_reducible repeat (first|apply bN|apply bD|apply bA));refine blk_far ?_ NB181_180.out _;(with_reducible repeat (first|apply bN|apply bD|apply bA));exact BK181.out) hb);replace HB:=am (below_step (by repeat (first|(with_reducible first|exact HB.out|apply lA|apply lN|apply lD|refine lS ?_ GE174.out|refine lS ?_ GE180.out|refine lS ?_ GE181.out)|exact HB.out)) hb);(try clear hb);(try clear hb2);(try clear hk);(try clear hi)))
       go_ret2
       exact ⟨by first|rfl|(simp [errW_none,errW_some] <;> rfl)|(simp [*,errW_none,errW_some] <;> rfl),by repeat (first|(with_reducible first|exact HB.out|apply lA|apply lN|apply lD|refine lS ?_ GE174.out|refine lS ?_ GE180.out|refine lS ?_ GE181.out)|exact HB.out)⟩
 ·rw [if_neg c5] at H;have c5b0 : (t175 == 0) = false:=beq_eq_false_iff_ne.mpr c5;have c5b1 : (t175 != 0) = true:=bne_iff_ne.mpr c5;simp only [Option.some.injEq,Prod.mk.injEq] at H;obtain ⟨rfl,rfl⟩ := H
  go_enter Try.func16,Try.ntmps16
  go_wp2_with (first|((with_reducible refine gate_dst (N:=3) rfl ?_);refine box_event ?hg (N:=3) ?hd (cs:=#[.string a0_0,.slice A0_1 l0_1.length c0_1]) (t:=25) ?hr ?_;(case hd=>rfl);(case hg=>rfl);(case hr=>first|(go_simp;done)|(go_simp;rfl));intro gb174 hg w47 hbox hb;have BK174:=am hbox;have GW174:=bza HB hg;have GE174:=bza HB hg;replace HB:=bsa HB hb;clear hb hbox hg;obtain ⟨hcz48_0,hcz48_1,hfz48_0,hfz48_1⟩ := c2_ BK174.out)|((with_reducible refine gate_callee (f:=17) rfl ?_);refine goesL_ (some 12) rfl rfl Try.func17 (by kernel_rfl) rfl #[.agg #[.string a0_0,.slice A0_1 l0_1.length c0_1]] rfl (by (try simp only [mT,mC,mN]);first|done|rfl|(simp only [lDr,lTk];rfl)) ?_;(with_reducible refine (profile_Check.calls k a0_0 _ _ l0_1 t175 _ ?side1 ?side2 A4.out).mono ?_);(case side1=>exact cq HR0_1.out HB.out);(case side2=>exact HC0_1.out);rintro e w49 ⟨rfl,hb⟩;refine ⟨_,rfl, ?_⟩;replace BK174:=bba BK174 hb;replace HB:=bsa HB hb;(try clear hb);(try clear hb2);(try clear hk);(try clear hi)))
  go_ret2
  exact ⟨by first|rfl|(simp [errW_none,errW_some] <;> rfl)|(simp [*,errW_none,errW_some] <;> rfl),by repeat (first|(with_reducible first|exact HB.out|apply lA|apply lN|apply lD|refine lS ?_ GE174.out)|exact HB.out)⟩
def profile_Canonical.f (k : Nat) (a0_0 : ByteArray) (l0_1 : List (S31)) : Option (ByteArray × (List (S31)) × Int):=(profile_Check.f k a0_0 l0_1).bind fun t198=>(if t198 = 0 then ((profile_canonical.f k l0_1).bind fun t199=>(some (a0_0,t199,0))) else (some ((⟨#[]⟩ : ByteArray),([] : List (S31)),t198)))
theorem profile_Canonical.mono : ∀ a0 a1 k,LeO (profile_Canonical.f k a0 a1) (profile_Canonical.f (k + 1) a0 a1):=by
 intro a0 a1 k
 unfold profile_Canonical.f
 repeat' first
   | (with_reducible exact profile_Check.mono _ _ _)
   | (with_reducible exact profile_canonical.mono _ _)
   | (with_reducible exact LeO.refl _)
   | (with_reducible exact LeO.none _)
   | (with_reducible refine LeO.ite ?_ ?_)
   | (with_reducible refine LeO.bind ?_ (fun _=>?_))
   | exact profile_Check.mono _ _ _
   | exact profile_canonical.mono _ _
   | exact LeO.none _
   | refine LeO.ite ?_ ?_
   | refine LeO.bind ?_ (fun _=>?_)
def profile_Canonical.T4 : Bool × List (List Nat × List Nat):=(true,[([],[]),([0],[0]),([],[]),([2],[2]),([3],[3]),([1,4],[1,4]),([5,4,0,1,2,3,4,5],[5]),([6,0,1,2,3,4,5,6],[])])
def profile_Canonical.B4 : List Nat:=[0,1,0,4,12,31,63,127]
theorem profile_Canonical.tab4 : rtab .any (opsOf Try.f20 4) = profile_Canonical.T4:=by kernel_rfl
theorem profile_Canonical.bits4 : waitsOk profile_Canonical.T4.2 profile_Canonical.B4 = true:=by kernel_rfl
set_option maxHeartbeats 8000000 in
set_option maxRecDepth 100000 in
theorem profile_Canonical.calls (k : Nat) (a0_0 : ByteArray) (A0_1 : Option Addr) (c0_1 : Nat) (l0_1 : List (S31)) (r1 : ByteArray) (r2 : List (S31)) (r3 : Int) (w : World) (hr0_1 : Kd.C k31 w A0_1 l0_1.length l0_1) (hc0_1 : l0_1.length ≤ c0_1) (h : profile_Canonical.f k a0_0 l0_1 = some (r1, r2, r3)) :
  Calls Try.prog 20 #[.agg #[.string a0_0,.slice A0_1 l0_1.length c0_1]] w fun e w'=>∃ v1_ : Value,e = .returned (.tuple #[.agg #[.string r1,v1_],.int .i64 r3]) ∧ Kd.R k31 31 w' w.heap.size (fun _=>True) v1_ r2 ∧ Below w.heap.size w w':=by
 have hu25:=Try.underlying25;have HR0_1:=am hr0_1;have HC0_1:=am hc0_1;clear hr0_1 hc0_1;have HB:=am (Below.refl w.heap.size w);have H : ((profile_Check.f k a0_0 l0_1).bind fun t198=>(if t198 = 0 then ((profile_canonical.f k l0_1).bind fun t199=>(some (a0_0,t199,0))) else (some ((⟨#[]⟩ : ByteArray),([] : List (S31)),t198)))) = some (r1,r2,r3):=h;clear h;replace H:=Option.bind_eq_some_iff.mp H;obtain ⟨t198,A20,H⟩ := H;replace H : (if t198 = 0 then ((profile_canonical.f k l0_1).bind fun t199=>(some (a0_0,t199,0))) else (some ((⟨#[]⟩ : ByteArray),([] : List (S31)),t198))) = some (r1,r2,r3):=H;have A2:=am A20;clear A20;by_cases c3 : t198 = 0
 ·rw [if_pos c3] at H;have c3b0 : (t198 == 0) = true:=beq_iff_eq.mpr c3;have c3b1 : (t198 != 0) = false:=bne_eq_false_iff_eq.mpr c3;clear c3;replace H:=Option.bind_eq_some_iff.mp H;obtain ⟨t199,A40,H⟩ := H;replace H : (some (a0_0,t199,0)) = some (r1,r2,r3):=H;have A4:=am A40;clear A40;simp only [Option.some.injEq,Prod.mk.injEq] at H;obtain ⟨rfl,rfl,rfl⟩ := H
  go_enter Try.func20,Try.ntmps20
  try go_wp2_with (first|((with_reducible refine gate_dst (N:=1) rfl ?_);refine box_event ?hg (N:=1) ?hd (cs:=#[.string a0_0,.slice A0_1 l0_1.length c0_1]) (t:=25) ?hr ?_;(case hd=>rfl);(case hg=>rfl);(case hr=>first|(go_simp;done)|(go_simp;rfl));intro gb196 hg w5 hbox hb;have BK196:=am hbox;have GW196:=bza HB hg;have GE196:=bza HB hg;replace HB:=bsa HB hb;clear hb hbox hg)|((with_reducible refine gate_dst (N:=2) rfl ?_);refine box_event ?hg (N:=2) ?hd (cs:=#[.string (⟨#[]⟩ : ByteArray),.slice none 0 0]) (t:=25) ?hr ?_;(case hd=>rfl);(case hg=>rfl);(case hr=>first|(go_simp;done)|(go_simp;rfl));intro gb197 hg w6 hbox hb;have BK197:=am hbox;have GW197:=bza HB hg;have GE197:=bza HB hg;have NB196_197:=bla BK196 hg;have NB197_196:=bga BK196 hg;replace BK196:=bba BK196 hb;replace HB:=bsa HB hb;clear hb hbox hg;have hnb7:=NB196_197.out;have hnc7:=NB197_196.out;obtain ⟨hcz8_0,hcz8_1,hfz8_0,hfz8_1⟩ := c2_ BK196.out)|((with_reducible refine gate_callee (f:=17) rfl ?_);refine goesL_ (some 6) rfl rfl Try.func17 (by kernel_rfl) rfl #[.agg #[.string a0_0,.slice A0_1 l0_1.length c0_1]] rfl (by (try simp only [mT,mC,mN]);first|done|rfl|(simp only [lDr,lTk];rfl)) ?_;(with_reducible refine (profile_Check.calls k a0_0 _ _ l0_1 t198 _ ?side1 ?side2 A2.out).mono ?_);(case side1=>exact cq HR0_1.out HB.out);(case side2=>exact HC0_1.out);rintro e w9 ⟨rfl,hb⟩;refine ⟨_,rfl, ?_⟩;replace BK196:=bba BK196 hb;replace BK197:=bba BK197 hb;replace HB:=bsa HB hb;(try clear hb);(try clear hb2);(try clear hk);(try clear hi)))
  replace BK196:=bda BK196;replace BK197:=bda BK197;replace HB:=hda HB
  refine start_ (n:=8) (S:=fun w'=>w'.cell? ⟨gb196,0,none⟩ = some (.string a0_0) ∧ w'.cell? ⟨gb196,1,none⟩ = some (.slice A0_1 l0_1.length c0_1)) (ds:=[]) #[f_,f_,f_,f_,f_,f_,f_,f_] (by kernel_rfl) rfl rfl ⟨(blk_cell BK196.out 0).trans rfl,(blk_cell BK196.out 1).trans rfl⟩ (fun hHeld=>?_);refine with_tabW profile_Canonical.tab4 profile_Canonical.bits4 (fun HT_ HW_=>?_)
  generalize w9.drew = w10 at BK196 BK197 HB hHeld ⊢
  refine pu_ HT_ 0 11 (mk_ 8 1) ?_
  refine pu_ HT_ 2 13 (mk_ 8 5) ?_
  refine ta2_ HT_ HW_ 1 12 (mk_ 8 7) hHeld ?_
  refine ta2_ HT_ HW_ 3 14 (mk_ 8 15) hHeld ?_
  refine one_ (i:=4) (N:=some 15) (mk_ 8 31) rfl rfl (one_of HT_.out (by kernel_rfl)) (by decide) (fun K hK=>?_);refine goes_ Try.func44 (by kernel_rfl) rfl #[.slice A0_1 l0_1.length c0_1] (by rfl) rfl rfl (by (try simp only [mT,mC,mN]);first|done|rfl|(simp only [lDr,lTk];rfl)) ?_
  with_reducible refine (profile_canonical.calls k _ _ l0_1 t199 _ ?side1 ?side2 A4.out).mono ?_
  (case side1=>exact cq HR0_1.out HB.out);(case side2=>exact HC0_1.out);rintro e w11 ⟨v200,rfl,ho0,hb⟩;refine ⟨_,rfl, ?_⟩;have HO201:=am (Kd.R_lower ho0 (below_size (by repeat (first|(with_reducible first|exact HB.out|apply lA|apply lN|apply lD|refine lS ?_ GE196.out|refine lS ?_ GE197.out)|exact HB.out))));replace BK196:=bba BK196 hb;replace BK197:=bba BK197 hb;replace HB:=bsa HB hb;(try clear hb);(try clear hb2);(try clear hk);(try clear hi);(try clear ho0);obtain ⟨Ao12,co12,eo12⟩ := Kd.R_slice HO201.out;(first|subst eo12|(injection eo12 with f1_ f2_ f3_;have f4_:=f1_.symm;have f5_:=f3_.symm;clear f1_ f2_ f3_;subst f4_;subst f5_))
  refine hK.out _ _ ⟨(blk_cell BK196.out 0).trans rfl,(blk_cell BK196.out 1).trans rfl⟩ (fun hHeld=>?_)
  clear hK K
  refine nm_ 15 ?_
  refine pu_ HT_ 5 16 (mk_ 8 63) ?_
  refine one_ (i:=6) (N:=none) (mk_ 8 127) rfl rfl (one_of HT_.out (by kernel_rfl)) (by decide) (fun K hK=>?_);have hs13 : w11.cell? ⟨gb197,0,none⟩ = some (.string (⟨#[]⟩ : ByteArray)):=(blk_cell BK197.out 0).trans rfl;have hfs13:=blk_frozen BK197.out 0;have hns13_0:=NB196_197.out;have hms13_0:=NB197_196.out;have hs14 : w11.cell? ⟨gb197,1,none⟩ = some (.slice none 0 0):=(blk_cell BK197.out 1).trans rfl;have hfs14:=blk_frozen BK197.out 1;have hns14_0:=NB196_197.out;have hms14_0:=NB197_196.out
  refine skip_ (w1:=?_) (by rfl) rfl ?_ ?_
  rotate_left;(go_simp;rfl)
  refine hK.out _ _ ⟨((cell_far (p:=⟨gb197,_,none⟩) NB196_197.out _).trans (((cell_far (p:=⟨gb197,_,none⟩) NB196_197.out _).trans (hHeld.1)))),((cell_far (p:=⟨gb197,_,none⟩) NB196_197.out _).trans (((cell_far (p:=⟨gb197,_,none⟩) NB196_197.out _).trans (hHeld.2))))⟩ (fun hHeld=>?_)
  clear hK K
  refine pu_ HT_ 7 3 (mk_ 8 255) ?_
  refine done_ (done_of HT_.out (by kernel_rfl)) ?_
  try go_wp2
  refine bodyPost_ret (results_ct rfl _ _ gb197 25 #[.string a0_0,.slice Ao12 t199.length co12] (0,0) _ rfl (by (with_reducible repeat (first|apply bN|apply bD|apply bA));refine blk_put (cs:=#[.string a0_0,.slice none 0 0]) ?_ 1 _ rfl;(with_reducible repeat (first|apply bN|apply bD|apply bA));refine blk_put (cs:=#[.string (⟨#[]⟩ : ByteArray),.slice none 0 0]) ?_ 0 _ rfl;(with_reducible repeat (first|apply bN|apply bD|apply bA));exact BK197.out) Try.underlying25 rfl (by kernel_rfl)) rfl ?_
  exact ⟨_,by first|rfl|(simp [errW_none,errW_some] <;> rfl)|(simp [*,errW_none,errW_some] <;> rfl),by (with_reducible repeat (first|apply rA|apply rN|apply rD));exact Kd.R_mono (Kd.R_far (p:=⟨gb197,1,none⟩) (Kd.R_far (p:=⟨gb197,0,none⟩) (Kd.R_types HO201.out BK197.out (by decide)) (fun _ hk=>hk.2) (.string a0_0)) (fun _ hk=>hk.2) (.slice Ao12 t199.length co12)) (fun _ hk=>trivial),by repeat (first|(with_reducible first|exact HB.out|apply lA|apply lN|apply lD|refine lS ?_ GE196.out|refine lS ?_ GE197.out)|exact HB.out)⟩
 ·rw [if_neg c3] at H;have c3b0 : (t198 == 0) = false:=beq_eq_false_iff_ne.mpr c3;have c3b1 : (t198 != 0) = true:=bne_iff_ne.mpr c3;simp only [Option.some.injEq,Prod.mk.injEq] at H;obtain ⟨rfl,rfl,rfl⟩ := H
  go_enter Try.func20,Try.ntmps20
  go_wp2_with (first|((with_reducible refine gate_dst (N:=1) rfl ?_);refine box_event ?hg (N:=1) ?hd (cs:=#[.string a0_0,.slice A0_1 l0_1.length c0_1]) (t:=25) ?hr ?_;(case hd=>rfl);(case hg=>rfl);(case hr=>first|(go_simp;done)|(go_simp;rfl));intro gb196 hg w15 hbox hb;have BK196:=am hbox;have GW196:=bza HB hg;have GE196:=bza HB hg;replace HB:=bsa HB hb;clear hb hbox hg)|((with_reducible refine gate_dst (N:=2) rfl ?_);refine box_event ?hg (N:=2) ?hd (cs:=#[.string (⟨#[]⟩ : ByteArray),.slice none 0 0]) (t:=25) ?hr ?_;(case hd=>rfl);(case hg=>rfl);(case hr=>first|(go_simp;done)|(go_simp;rfl));intro gb197 hg w16 hbox hb;have BK197:=am hbox;have GW197:=bza HB hg;have GE197:=bza HB hg;have NB196_197:=bla BK196 hg;have NB197_196:=bga BK196 hg;replace BK196:=bba BK196 hb;replace HB:=bsa HB hb;clear hb hbox hg;have hnb17:=NB196_197.out;have hnc17:=NB197_196.out;obtain ⟨hcz18_0,hcz18_1,hfz18_0,hfz18_1⟩ := c2_ BK196.out)|((with_reducible refine gate_callee (f:=17) rfl ?_);refine goesL_ (some 6) rfl rfl Try.func17 (by kernel_rfl) rfl #[.agg #[.string a0_0,.slice A0_1 l0_1.length c0_1]] rfl (by (try simp only [mT,mC,mN]);first|done|rfl|(simp only [lDr,lTk];rfl)) ?_;(with_reducible refine (profile_Check.calls k a0_0 _ _ l0_1 t198 _ ?side1 ?side2 A2.out).mono ?_);(case side1=>exact cq HR0_1.out HB.out);(case side2=>exact HC0_1.out);rintro e w19 ⟨rfl,hb⟩;refine ⟨_,rfl, ?_⟩;replace BK196:=bba BK196 hb;replace BK197:=bba BK197 hb;replace HB:=bsa HB hb;(try clear hb);(try clear hb2);(try clear hk);(try clear hi);obtain ⟨hcz20_0,hcz20_1,hfz20_0,hfz20_1⟩ := c2_ BK197.out))
  refine bodyPost_ret (results_ct rfl _ _ gb197 25 #[.string (⟨#[]⟩ : ByteArray),.slice none 0 0] (0,0) _ rfl (by (with_reducible repeat (first|apply bN|apply bD|apply bA));refine blk_put (cs:=#[.string (⟨#[]⟩ : ByteArray),.slice none 0 0]) ?_ 1 _ rfl;(with_reducible repeat (first|apply bN|apply bD|apply bA));refine blk_put (cs:=#[.string (⟨#[]⟩ : ByteArray),.slice none 0 0]) ?_ 0 _ rfl;(with_reducible repeat (first|apply bN|apply bD|apply bA));exact BK197.out) Try.underlying25 rfl (by kernel_rfl)) rfl ?_
  exact ⟨_,by first|rfl|(simp [errW_none,errW_some] <;> rfl)|(simp [*,errW_none,errW_some] <;> rfl),by first|exact Kd.R_nil _ _ _ _ _|exact Kd.N_nil _ _ _ _ _|exact Kd.V_nil _ _ _ _ _|exact Kd.Q_nil _ _ _ _ _|exact Kd.S_nil _ _ _ _ _,by repeat (first|(with_reducible first|exact HB.out|apply lA|apply lN|apply lD|refine lS ?_ GE196.out|refine lS ?_ GE197.out)|exact HB.out)⟩
-- NOT PRINTED: function 45 (api_Point_45)
-- GIVEN: function 21 (profile_Mirror)
def api_Point_46.l0 : Nat → List (S31) → List (S31) → Int → Int → Option (Bool)
 | 0,_,_,_,_=>none
 | k + 1,x0,x1,x12,x13=>if x13 < x12 then (if 0 ≤ x13 then (if x13 < (x0.length : Int) then (if x13 < (x1.length : Int) then (if (!(((rd_T31 x0 x13).f0) == ((rd_T31 x1 x13).f0)) || (!(((rd_T31 x0 x13).f1) == ((rd_T31 x1 x13).f1)))) = true then (some false) else (api_Point_46.l0 k x0 x1 x12 (wrap64 (x13 + 1)))) else (none)) else (none)) else (none)) else (some true)
def api_Point_46.f (k : Nat) (l0 : List (S31)) (l1 : List (S31)) : Option (Bool):=if (l0.length : Int) = (l1.length : Int) then (api_Point_46.l0 k l0 l1 (l0.length : Int) 0) else (some false)
theorem api_Point_46.mono_l : ∀ k,(∀ y0 y1 y2 y3,LeO (api_Point_46.l0 k y0 y1 y2 y3) (api_Point_46.l0 (k + 1) y0 y1 y2 y3))
 | 0=>fun _ _ _ _ r h=>by simp [api_Point_46.l0] at h
 | k + 1=>by
  have ih0:=api_Point_46.mono_l k
  ·intro y0 y1 y2 y3
   unfold api_Point_46.l0
   repeat' first
   | (with_reducible exact ih0 _ _ _ _)
   | (with_reducible exact LeO.refl _)
   | (with_reducible exact LeO.none _)
   | (with_reducible refine LeO.ite ?_ ?_)
   | (with_reducible refine LeO.bind ?_ (fun _=>?_))
   | exact ih0 _ _ _ _
   | exact LeO.none _
   | refine LeO.ite ?_ ?_
   | refine LeO.bind ?_ (fun _=>?_)
theorem api_Point_46.mono : ∀ a0 a1 k,LeO (api_Point_46.f k a0 a1) (api_Point_46.f (k + 1) a0 a1):=by
 intro a0 a1 k;have ih0:=api_Point_46.mono_l k
 unfold api_Point_46.f
 repeat' first
   | (with_reducible exact ih0 _ _ _ _)
   | (with_reducible exact LeO.refl _)
   | (with_reducible exact LeO.none _)
   | (with_reducible refine LeO.ite ?_ ?_)
   | (with_reducible refine LeO.bind ?_ (fun _=>?_))
   | exact ih0 _ _ _ _
   | exact LeO.none _
   | refine LeO.ite ?_ ?_
   | refine LeO.bind ?_ (fun _=>?_)
set_option maxHeartbeats 8000000 in
set_option maxRecDepth 100000 in
theorem api_Point_46.calls (k : Nat) (A0 : Option Addr) (c0 : Nat) (l0 : List (S31)) (A1 : Option Addr) (c1 : Nat) (l1 : List (S31)) (r : Bool) (w : World) (hr0 : Kd.C k31 w A0 l0.length l0) (hc0 : l0.length ≤ c0) (hr1 : Kd.C k31 w A1 l1.length l1) (hc1 : l1.length ≤ c1) (h : api_Point_46.f k l0 l1 = some r) :
  Calls Try.prog 46 #[.slice A0 l0.length c0,.slice A1 l1.length c1] w fun e w'=>e = .returned (.bool r) ∧ Drawn0 w w':=by
 have hu31:=Try.underlying31;have HR0:=am hr0;have HC0:=am hc0;clear hr0 hc0;have HR1:=am hr1;have HC1:=am hc1;clear hr1 hc1;have H : (if (l0.length : Int) = (l1.length : Int) then (api_Point_46.l0 k l0 l1 (l0.length : Int) 0) else (some false)) = some r:=h;clear h;by_cases c3 : (l0.length : Int) = (l1.length : Int)
 ·rw [if_pos c3] at H;have c3b0 : ((l0.length : Int) == (l1.length : Int)) = true:=beq_iff_eq.mpr c3;have c3b1 : ((l0.length : Int) != (l1.length : Int)) = false:=bne_eq_false_iff_eq.mpr c3
  have c3b2 : (l0.length == l1.length) = true:=by first|simpa using c3|(simp at c3 ⊢;omega)
  clear c3;have H':=am H;clear H
  go_enter Try.func46,Try.ntmps46
  go_wp2
  repeat (go_quiet (fail);try go_wp2)
  go_loopg [13] k (fun kq v13 w'=>∃ (x13_1 : Int),v13 = .int .i64 x13_1 ∧ Aside0 (api_Point_46.l0 kq l0 l1 (l0.length : Int) x13_1 = some r) ∧ Aside0 (kq ≤ k) ∧ Drawn0 w w')
  case atStart=>exact ⟨(0),(by first|rfl|(simp;done)|(simp [*];done)),H',⟨Nat.le_refl _⟩,by repeat (first|exact Drawn0.refl _|apply Drawn0.step)⟩
  case round =>
   clear H'
   try clear c1
   try clear p2
   try clear c3
   try clear c3b0
   try clear c3b1
   try clear c3b2
   obtain ⟨x13_1,rfl,HA,HK1,⟨m1,rfl⟩⟩ := hrel
   cases gk with
   | zero=>exact absurd HA.out (by simp [api_Point_46.l0])
   | succ k1 =>
    have H:=HA.out;clear HA;simp only [api_Point_46.l0] at H;by_cases c4 : x13_1 < (l0.length : Int)
    ·rw [if_pos c4] at H;have c4b0 : decide (x13_1 < (l0.length : Int)) = true:=decide_eq_true c4;clear c4;by_cases c5 : 0 ≤ x13_1
     ·rw [if_pos c5] at H;have c5b0 : decide (0 ≤ x13_1) = true:=decide_eq_true c5;clear c5;by_cases c6 : x13_1 < (l0.length : Int)
      ·rw [if_pos c6] at H;have c6b0 : decide (x13_1 < (l0.length : Int)) = true:=decide_eq_true c6;clear c6;by_cases c7 : x13_1 < (l1.length : Int)
       ·rw [if_pos c7] at H;have c7b0 : decide (x13_1 < (l1.length : Int)) = true:=decide_eq_true c7;clear c7;by_cases c8 : (!(((rd_T31 l0 x13_1).f0) == ((rd_T31 l1 x13_1).f0)) || (!(((rd_T31 l0 x13_1).f1) == ((rd_T31 l1 x13_1).f1)))) = true
        ·rw [if_pos c8] at H;have c8b0 : (!(((rd_T31 l0 x13_1).f0) == ((rd_T31 l1 x13_1).f0)) || (!(((rd_T31 l0 x13_1).f1) == ((rd_T31 l1 x13_1).f1)))) = true:=c8;clear c8;obtain rfl:=Option.some.inj H;have p202 : 0 ≤ (x13_1 : Int):=of_decide_eq_true (by first|(with_reducible assumption)|assumption);have q202 : x13_1 < (l0.length : Int):=of_decide_eq_true (by first|(with_reducible assumption)|assumption);obtain ⟨ad202,e202,hx202_0,hx202_1⟩ := at_T31 HR0.out x13_1 p202 q202
         cases e202
         replace p202:=eq_true p202;replace q202:=eq_true q202;have p203 : 0 ≤ (x13_1 : Int):=of_decide_eq_true (by first|(with_reducible assumption)|assumption);have q203 : x13_1 < (l1.length : Int):=of_decide_eq_true (by first|(with_reducible assumption)|assumption);obtain ⟨ad203,e203,hx203_0,hx203_1⟩ := at_T31 HR1.out x13_1 p203 q203
         cases e203
         replace p203:=eq_true p203;replace q203:=eq_true q203
         go_wp2
         repeat (go_quiet (fail);try go_wp2)
         go_ret
         exact ⟨by first|rfl|(simp;done)|(simp [*];done),by repeat (first|exact Drawn0.refl _|apply Drawn0.step)⟩
        ·rw [if_neg c8] at H
         have c8b0 : (!(((rd_T31 l0 x13_1).f0) == ((rd_T31 l1 x13_1).f0)) || (!(((rd_T31 l0 x13_1).f1) == ((rd_T31 l1 x13_1).f1)))) = false:=by simpa using c8
         clear c8;have H':=am H;clear H;have p202 : 0 ≤ (x13_1 : Int):=of_decide_eq_true (by first|(with_reducible assumption)|assumption);have q202 : x13_1 < (l0.length : Int):=of_decide_eq_true (by first|(with_reducible assumption)|assumption);obtain ⟨ad202,e202,hx202_0,hx202_1⟩ := at_T31 HR0.out x13_1 p202 q202
         cases e202
         replace p202:=eq_true p202;replace q202:=eq_true q202;have p203 : 0 ≤ (x13_1 : Int):=of_decide_eq_true (by first|(with_reducible assumption)|assumption);have q203 : x13_1 < (l1.length : Int):=of_decide_eq_true (by first|(with_reducible assumption)|assumption);obtain ⟨ad203,e203,hx203_0,hx203_1⟩ := at_T31 HR1.out x13_1 p203 q203
         cases e203
         replace p203:=eq_true p203;replace q203:=eq_true q203
         go_wp2
         repeat (go_quiet (fail);try go_wp2)
         go_roundg k1
         case measure=>have:=HK1.out;omega
         case rel=>exact ⟨(wrap64 (x13_1 + 1)),(by first|rfl|(simp;done)|(simp [*];done)),H',⟨by have:=HK1.out;omega⟩,by repeat (first|exact Drawn0.refl _|apply Drawn0.step)⟩
       (rw [if_neg c7] at H;exact absurd H (by simp))
      (rw [if_neg c6] at H;exact absurd H (by simp))
     (rw [if_neg c5] at H;exact absurd H (by simp))
    ·rw [if_neg c4] at H;have c4b0 : decide (x13_1 < (l0.length : Int)) = false:=decide_eq_false c4;clear c4;obtain rfl:=Option.some.inj H
     go_wp2
     repeat (go_quiet (fail);try go_wp2)
     go_ret
     exact ⟨by first|rfl|(simp;done)|(simp [*];done),by repeat (first|exact Drawn0.refl _|apply Drawn0.step)⟩
 ·rw [if_neg c3] at H;have c3b0 : ((l0.length : Int) == (l1.length : Int)) = false:=beq_eq_false_iff_ne.mpr c3;have c3b1 : ((l0.length : Int) != (l1.length : Int)) = true:=bne_iff_ne.mpr c3
  have c3b2 : (l0.length == l1.length) = false:=by first|simpa using c3|(simp at c3 ⊢;omega)
  obtain rfl:=Option.some.inj H
  go_enter Try.func46,Try.ntmps46
  go_wp2
  repeat (go_quiet (fail);try go_wp2)
  go_ret
  exact ⟨by first|rfl|(simp;done)|(simp [*];done),by repeat (first|exact Drawn0.refl _|apply Drawn0.step)⟩
end
end Go.Proofs.Ytnjikioimompnaa.PA
