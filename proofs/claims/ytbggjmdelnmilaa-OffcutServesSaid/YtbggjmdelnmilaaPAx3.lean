import Derived.Test.YtbggjmdelnmilaaGiven
namespace Go.Proofs.Ytbggjmdelnmilaa.PA
open Go.RowKit Go.Proofs.YtbggjmdelnmilaaW.PrintWords Go.Proofs.YtbggjmdelnmilaaW.PrintLast Go.Proofs.YtbggjmdelnmilaaW.PrintMore
attribute [local go_sem] max2_int min2_int max_two min_two max_three min_three max_four min_four
set_option linter.unusedVariables false
set_option linter.unusedSimpArgs false
-- GIVEN: function 17 (offcut_Check)
-- NOT PRINTED: function 88 (offcut_Want_88)
-- NOT PRINTED: function 81 (offcut_Want_81)
-- GIVEN: function 63 (offcut_wanted)
def offcut_ready.f (l0 : List (S39)) (l1 : List (S36)) (a2 : Int) : Option (Int):=(offcut_Check.f l0).bind fun t101=>(if t101 = 0 then ((offcut_wanted.f l1).bind fun t102=>(if t102 = 0 then (if a2 < 0 then (some 6) else (if a2 > 1000 then (some 6) else (some 0))) else (some t102))) else (some t101))
set_option maxHeartbeats 8000000 in
set_option maxRecDepth 100000 in
theorem offcut_ready.calls (A0 : Option Addr) (c0 : Nat) (l0 : List (S39)) (A1 : Option Addr) (c1 : Nat) (l1 : List (S36)) (a2 : Int) (r : Int) (w : World) (hr0 : Kd.C k39 w A0 l0.length l0) (hc0 : l0.length ≤ c0) (hr1 : Kd.C k36 w A1 l1.length l1) (hc1 : l1.length ≤ c1) (h : offcut_ready.f l0 l1 a2 = some r) :
  Calls Try.prog 34 #[.slice A0 l0.length c0,.slice A1 l1.length c1,.int .i64 a2] w fun e w'=>e = .returned (.int .i64 r) ∧ Below w.heap.size w w':=by
 have HR0:=am hr0;have HC0:=am hc0;clear hr0 hc0;have HR1:=am hr1;have HC1:=am hc1;clear hr1 hc1;have HB:=am (Below.refl w.heap.size w);have H : ((offcut_Check.f l0).bind fun t101=>(if t101 = 0 then ((offcut_wanted.f l1).bind fun t102=>(if t102 = 0 then (if a2 < 0 then (some 6) else (if a2 > 1000 then (some 6) else (some 0))) else (some t102))) else (some t101))) = some r:=h;clear h;replace H:=Option.bind_eq_some_iff.mp H;obtain ⟨t101,A40,H⟩ := H;replace H : (if t101 = 0 then ((offcut_wanted.f l1).bind fun t102=>(if t102 = 0 then (if a2 < 0 then (some 6) else (if a2 > 1000 then (some 6) else (some 0))) else (some t102))) else (some t101)) = some r:=H;have A4:=am A40;clear A40;by_cases c5 : t101 = 0
 ·rw [if_pos c5] at H;have c5b0 : (t101 == 0) = true:=beq_iff_eq.mpr c5;have c5b1 : (t101 != 0) = false:=bne_eq_false_iff_eq.mpr c5;clear c5;replace H:=Option.bind_eq_some_iff.mp H;obtain ⟨t102,A60,H⟩ := H;replace H : (if t102 = 0 then (if a2 < 0 then (some 6) else (if a2 > 1000 then (some 6) else (some 0))) else (some t102)) = some r:=H;have A6:=am A60;clear A60;by_cases c7 : t102 = 0
  ·rw [if_pos c7] at H;have c7b0 : (t102 == 0) = true:=beq_iff_eq.mpr c7;have c7b1 : (t102 != 0) = false:=bne_eq_false_iff_eq.mpr c7;clear c7;by_cases c8 : a2 < 0
   ·rw [if_pos c8] at H;have c8b0 : decide (a2 < 0) = true:=decide_eq_true c8;clear c8;obtain rfl:=Option.some.inj H
    go_enter Try.func34,Try.ntmps34
    go_wp2_with (first|((with_reducible refine gate_callee (f:=17) rfl ?_);refine gL 10 Try.func17 #[.slice A0 l0.length c0] ?_;(with_reducible refine (offcut_Check.calls _ _ l0 t101 _ ?side1 ?side2 A4.out).mono ?_);(case side1=>repeat (first|exact HR0.out|(with_reducible first|apply kA|apply kN|apply kD)));(case side2=>exact HC0.out);rintro e w9 ⟨rfl,hb⟩;refine ⟨_,rfl, ?_⟩;replace HB:=bsa HB hb;(try clear hb))|((with_reducible refine gate_callee (f:=63) rfl ?_);refine gL 15 Try.func63 #[.slice A1 l1.length c1] ?_;(with_reducible refine (offcut_wanted.calls _ _ l1 t102 _ ?side1 ?side2 A6.out).mono ?_);(case side1=>exact cq HR1.out HB.out);(case side2=>exact HC1.out);rintro e w10 ⟨rfl,hb⟩;refine ⟨_,rfl, ?_⟩;replace HB:=bsa HB hb;(try clear hb)))
    go_ret
    exact ⟨by first|rfl|(simp [errW_none,errW_some] <;> rfl)|(simp [*,errW_none,errW_some] <;> rfl),by repeat (first|(with_reducible first|exact HB.out|apply lA|apply lN|apply lD)|exact HB.out)⟩
   ·rw [if_neg c8] at H;have c8b0 : decide (a2 < 0) = false:=decide_eq_false c8;clear c8;by_cases c11 : a2 > 1000
    ·rw [if_pos c11] at H;have c11b0 : decide (1000 < a2) = true:=decide_eq_true c11;clear c11;obtain rfl:=Option.some.inj H
     go_enter Try.func34,Try.ntmps34
     go_wp2_with (first|((with_reducible refine gate_callee (f:=17) rfl ?_);refine gL 10 Try.func17 #[.slice A0 l0.length c0] ?_;(with_reducible refine (offcut_Check.calls _ _ l0 t101 _ ?side1 ?side2 A4.out).mono ?_);(case side1=>repeat (first|exact HR0.out|(with_reducible first|apply kA|apply kN|apply kD)));(case side2=>exact HC0.out);rintro e w12 ⟨rfl,hb⟩;refine ⟨_,rfl, ?_⟩;replace HB:=bsa HB hb;(try clear hb))|((with_reducible refine gate_callee (f:=63) rfl ?_);refine gL 15 Try.func63 #[.slice A1 l1.length c1] ?_;(with_reducible refine (offcut_wanted.calls _ _ l1 t102 _ ?side1 ?side2 A6.out).mono ?_);(case side1=>exact cq HR1.out HB.out);(case side2=>exact HC1.out);rintro e w13 ⟨rfl,hb⟩;refine ⟨_,rfl, ?_⟩;replace HB:=bsa HB hb;(try clear hb)))
     go_ret
     exact ⟨by first|rfl|(simp [errW_none,errW_some] <;> rfl)|(simp [*,errW_none,errW_some] <;> rfl),by repeat (first|(with_reducible first|exact HB.out|apply lA|apply lN|apply lD)|exact HB.out)⟩
    ·rw [if_neg c11] at H;have c11b0 : decide (1000 < a2) = false:=decide_eq_false c11;clear c11;obtain rfl:=Option.some.inj H
     go_enter Try.func34,Try.ntmps34
     go_wp2_with (first|((with_reducible refine gate_callee (f:=17) rfl ?_);refine gL 10 Try.func17 #[.slice A0 l0.length c0] ?_;(with_reducible refine (offcut_Check.calls _ _ l0 t101 _ ?side1 ?side2 A4.out).mono ?_);(case side1=>repeat (first|exact HR0.out|(with_reducible first|apply kA|apply kN|apply kD)));(case side2=>exact HC0.out);rintro e w14 ⟨rfl,hb⟩;refine ⟨_,rfl, ?_⟩;replace HB:=bsa HB hb;(try clear hb))|((with_reducible refine gate_callee (f:=63) rfl ?_);refine gL 15 Try.func63 #[.slice A1 l1.length c1] ?_;(with_reducible refine (offcut_wanted.calls _ _ l1 t102 _ ?side1 ?side2 A6.out).mono ?_);(case side1=>exact cq HR1.out HB.out);(case side2=>exact HC1.out);rintro e w15 ⟨rfl,hb⟩;refine ⟨_,rfl, ?_⟩;replace HB:=bsa HB hb;(try clear hb)))
     go_ret
     exact ⟨by first|rfl|(simp [errW_none,errW_some] <;> rfl)|(simp [*,errW_none,errW_some] <;> rfl),by repeat (first|(with_reducible first|exact HB.out|apply lA|apply lN|apply lD)|exact HB.out)⟩
  ·rw [if_neg c7] at H;have c7b0 : (t102 == 0) = false:=beq_eq_false_iff_ne.mpr c7;have c7b1 : (t102 != 0) = true:=bne_iff_ne.mpr c7;obtain rfl:=Option.some.inj H
   go_enter Try.func34,Try.ntmps34
   go_wp2_with (first|((with_reducible refine gate_callee (f:=17) rfl ?_);refine gL 10 Try.func17 #[.slice A0 l0.length c0] ?_;(with_reducible refine (offcut_Check.calls _ _ l0 t101 _ ?side1 ?side2 A4.out).mono ?_);(case side1=>repeat (first|exact HR0.out|(with_reducible first|apply kA|apply kN|apply kD)));(case side2=>exact HC0.out);rintro e w16 ⟨rfl,hb⟩;refine ⟨_,rfl, ?_⟩;replace HB:=bsa HB hb;(try clear hb))|((with_reducible refine gate_callee (f:=63) rfl ?_);refine gL 15 Try.func63 #[.slice A1 l1.length c1] ?_;(with_reducible refine (offcut_wanted.calls _ _ l1 t102 _ ?side1 ?side2 A6.out).mono ?_);(case side1=>exact cq HR1.out HB.out);(case side2=>exact HC1.out);rintro e w17 ⟨rfl,hb⟩;refine ⟨_,rfl, ?_⟩;replace HB:=bsa HB hb;(try clear hb)))
   go_ret
   exact ⟨by first|rfl|(simp [errW_none,errW_some] <;> rfl)|(simp [*,errW_none,errW_some] <;> rfl),by repeat (first|(with_reducible first|exact HB.out|apply lA|apply lN|apply lD)|exact HB.out)⟩
 ·rw [if_neg c5] at H;have c5b0 : (t101 == 0) = false:=beq_eq_false_iff_ne.mpr c5;have c5b1 : (t101 != 0) = true:=bne_iff_ne.mpr c5;obtain rfl:=Option.some.inj H
  go_enter Try.func34,Try.ntmps34
  go_wp2_with (first|((with_reducible refine gate_callee (f:=17) rfl ?_);refine gL 10 Try.func17 #[.slice A0 l0.length c0] ?_;(with_reducible refine (offcut_Check.calls _ _ l0 t101 _ ?side1 ?side2 A4.out).mono ?_);(case side1=>repeat (first|exact HR0.out|(with_reducible first|apply kA|apply kN|apply kD)));(case side2=>exact HC0.out);rintro e w18 ⟨rfl,hb⟩;refine ⟨_,rfl, ?_⟩;replace HB:=bsa HB hb;(try clear hb)))
  go_ret
  exact ⟨by first|rfl|(simp [errW_none,errW_some] <;> rfl)|(simp [*,errW_none,errW_some] <;> rfl),by repeat (first|(with_reducible first|exact HB.out|apply lA|apply lN|apply lD)|exact HB.out)⟩
def offcut_lasting.f (a0 : Int) : Option (Bool):=if a0 ≥ 1 then (some (decide (a0 ≤ 1000000))) else (some false)
set_option maxHeartbeats 8000000 in
set_option maxRecDepth 100000 in
theorem offcut_lasting.calls (a0 : Int) (r : Bool) (w : World) (h : offcut_lasting.f a0 = some r) :
  Calls Try.prog 35 #[.int .i64 a0] w fun e w'=>e = .returned (.bool r) ∧ Drawn0 w w':=by
 have H : (if a0 ≥ 1 then (some (decide (a0 ≤ 1000000))) else (some false)) = some r:=h;clear h;by_cases c2 : a0 ≥ 1
 ·rw [if_pos c2] at H;have c2b0 : decide (1 ≤ a0) = true:=decide_eq_true c2;clear c2;obtain rfl:=Option.some.inj H
  go_enter Try.func35,Try.ntmps35
  go_wp2
  go_ret
  exact ⟨by first|rfl|(simp;done)|(simp [*];done),by repeat (first|exact Drawn0.refl _|apply Drawn0.step)⟩
 ·rw [if_neg c2] at H;have c2b0 : decide (1 ≤ a0) = false:=decide_eq_false c2;clear c2;obtain rfl:=Option.some.inj H
  go_enter Try.func35,Try.ntmps35
  go_wp2
  go_ret
  exact ⟨by first|rfl|(simp;done)|(simp [*];done),by repeat (first|exact Drawn0.refl _|apply Drawn0.step)⟩
def offcut_volume.f (a0_0 : Int) (a0_1 : Int) (a0_2 : Int) : Option (Int):=some (wrap64 ((wrap64 (a0_0 * a0_1)) * a0_2))
set_option maxHeartbeats 8000000 in
set_option maxRecDepth 100000 in
theorem offcut_volume.calls (a0_0 : Int) (a0_1 : Int) (a0_2 : Int) (r : Int) (w : World) (h : offcut_volume.f a0_0 a0_1 a0_2 = some r) :
  Calls Try.prog 38 #[.agg #[.int .i64 a0_0,.int .i64 a0_1,.int .i64 a0_2]] w fun e w'=>e = .returned (.int .i64 r) ∧ Below w.heap.size w w':=by
 have hu24:=Try.underlying24;have HB:=am (Below.refl w.heap.size w);have H : (some (wrap64 ((wrap64 (a0_0 * a0_1)) * a0_2))) = some r:=h;clear h;obtain rfl:=Option.some.inj H
 go_enter Try.func38,Try.ntmps38
 go_wp2_with (first|((with_reducible refine gate_dst (N:=1) rfl ?_);refine be 1 24 (cs:=#[.int .i64 a0_0,.int .i64 a0_1,.int .i64 a0_2]) ?_;intro gb103 hg w2 hbox hb;have BK103:=am hbox;have GW103:=bza HB hg;have GE103:=bza HB hg;replace HB:=bsa HB hb;clear hb hbox hg;obtain ⟨hcz3_0,hcz3_1,hcz3_2,hfz3_0,hfz3_1,hfz3_2⟩ := c3_ BK103.out))
 go_ret
 exact ⟨by first|rfl|(simp [errW_none,errW_some] <;> rfl)|(simp [*,errW_none,errW_some] <;> rfl),by repeat (first|(with_reducible first|exact HB.out|apply lA|apply lN|apply lD|refine lS ?_ GE103.out)|exact HB.out)⟩
end Go.Proofs.Ytbggjmdelnmilaa.PA
