import Derived.Test.YtbggjmdelnmilaaPAx12
import Derived.Test.YtbggjmdelnmilaaPAx13
namespace Go.Proofs.Ytbggjmdelnmilaa.PA
open Go.RowKit Go.Proofs.YtbggjmdelnmilaaW.PrintWords Go.Proofs.YtbggjmdelnmilaaW.PrintLast Go.Proofs.YtbggjmdelnmilaaW.PrintMore
attribute [local go_sem] max2_int min2_int max_two min_two max_three min_three max_four min_four
set_option linter.unusedVariables false
set_option linter.unusedSimpArgs false
def gangsawref31_least.f (a0 : Int) : Option (Bool):=if a0 ≥ 1 then (some (decide (a0 ≤ 1000000))) else (some false)
set_option maxHeartbeats 8000000 in
set_option maxRecDepth 100000 in
theorem gangsawref31_least.calls (a0 : Int) (r : Bool) (w : World) (h : gangsawref31_least.f a0 = some r) :
  Calls Try.prog 61 #[.int .i64 a0] w fun e w'=>e = .returned (.bool r) ∧ Drawn0 w w':=by
 have H : (if a0 ≥ 1 then (some (decide (a0 ≤ 1000000))) else (some false)) = some r:=h;clear h;by_cases c2 : a0 ≥ 1
 ·rw [if_pos c2] at H;have c2b0 : decide (1 ≤ a0) = true:=decide_eq_true c2;clear c2;obtain rfl:=Option.some.inj H
  go_enter Try.func61,Try.ntmps61
  go_wp2
  go_ret
  exact ⟨by first|rfl|(simp;done)|(simp [*];done),by repeat (first|exact Drawn0.refl _|apply Drawn0.step)⟩
 ·rw [if_neg c2] at H;have c2b0 : decide (1 ≤ a0) = false:=decide_eq_false c2;clear c2;obtain rfl:=Option.some.inj H
  go_enter Try.func61,Try.ntmps61
  go_wp2
  go_ret
  exact ⟨by first|rfl|(simp;done)|(simp [*];done),by repeat (first|exact Drawn0.refl _|apply Drawn0.step)⟩
def gangsawref31_Taking.f (k : Nat) (l0 : List (S39)) (l1 : List (S26)) (a2 : Int) (a3 : Int) : Option (Int):=(gangsawref31_Check.f k l0).bind fun t511=>(if t511 = 0 then ((gangsawref31_Wants.f k l1 a2).bind fun t512=>(if t512 = 0 then ((gangsawref31_least.f a3).bind fun t513=>(if t513 = true then (some 0) else (some 6))) else (some t512))) else (some t511))
set_option maxHeartbeats 8000000 in
set_option maxRecDepth 100000 in
theorem gangsawref31_Taking.calls (k : Nat) (A0 : Option Addr) (c0 : Nat) (l0 : List (S39)) (A1 : Option Addr) (c1 : Nat) (l1 : List (S26)) (a2 : Int) (a3 : Int) (r : Int) (w : World) (hr0 : Kd.C k39 w A0 l0.length l0) (hc0 : l0.length ≤ c0) (hr1 : Kd.C k26 w A1 l1.length l1) (hc1 : l1.length ≤ c1) (h : gangsawref31_Taking.f k l0 l1 a2 a3 = some r) :
  Calls Try.prog 31 #[.slice A0 l0.length c0,.slice A1 l1.length c1,.int .i64 a2,.int .i64 a3] w fun e w'=>e = .returned (.int .i64 r) ∧ Below w.heap.size w w':=by
 have HR0:=am hr0;have HC0:=am hc0;clear hr0 hc0;have HR1:=am hr1;have HC1:=am hc1;clear hr1 hc1;have HB:=am (Below.refl w.heap.size w);have H : ((gangsawref31_Check.f k l0).bind fun t511=>(if t511 = 0 then ((gangsawref31_Wants.f k l1 a2).bind fun t512=>(if t512 = 0 then ((gangsawref31_least.f a3).bind fun t513=>(if t513 = true then (some 0) else (some 6))) else (some t512))) else (some t511))) = some r:=h;clear h;replace H:=Option.bind_eq_some_iff.mp H;obtain ⟨t511,A50,H⟩ := H;replace H : (if t511 = 0 then ((gangsawref31_Wants.f k l1 a2).bind fun t512=>(if t512 = 0 then ((gangsawref31_least.f a3).bind fun t513=>(if t513 = true then (some 0) else (some 6))) else (some t512))) else (some t511)) = some r:=H;have A5:=am A50;clear A50;by_cases c6 : t511 = 0
 ·rw [if_pos c6] at H;have c6b0 : (t511 == 0) = true:=beq_iff_eq.mpr c6;have c6b1 : (t511 != 0) = false:=bne_eq_false_iff_eq.mpr c6;clear c6;replace H:=Option.bind_eq_some_iff.mp H;obtain ⟨t512,A70,H⟩ := H;replace H : (if t512 = 0 then ((gangsawref31_least.f a3).bind fun t513=>(if t513 = true then (some 0) else (some 6))) else (some t512)) = some r:=H;have A7:=am A70;clear A70;by_cases c8 : t512 = 0
  ·rw [if_pos c8] at H;have c8b0 : (t512 == 0) = true:=beq_iff_eq.mpr c8;have c8b1 : (t512 != 0) = false:=bne_eq_false_iff_eq.mpr c8;clear c8;replace H:=Option.bind_eq_some_iff.mp H;obtain ⟨t513,A90,H⟩ := H;replace H : (if t513 = true then (some 0) else (some 6)) = some r:=H;have A9:=am A90;clear A90;by_cases c10 : t513 = true
   ·subst c10
    have H1 : (some 0) = some r:=by rw [if_pos rfl] at H;exact H
    clear H;have H:=H1;clear H1;obtain rfl:=Option.some.inj H
    go_enter Try.func31,Try.ntmps31
    go_wp2_with (first|((with_reducible refine gate_callee (f:=21) rfl ?_);refine gL 12 Try.func21 #[.slice A0 l0.length c0] ?_;(with_reducible refine (gangsawref31_Check.calls k _ _ l0 t511 _ ?side1 ?side2 A5.out).mono ?_);(case side1=>repeat (first|exact HR0.out|(with_reducible first|apply kA|apply kN|apply kD)));(case side2=>exact HC0.out);rintro e w11 ⟨rfl,hb⟩;refine ⟨_,rfl, ?_⟩;replace HB:=bsa HB hb;(try clear hb))|((with_reducible refine gate_callee (f:=56) rfl ?_);refine gL 18 Try.func56 #[.slice A1 l1.length c1,.int .i64 a2] ?_;(with_reducible refine (gangsawref31_Wants.calls k _ _ l1 a2 t512 _ ?side1 ?side2 A7.out).mono ?_);(case side1=>exact cq HR1.out HB.out);(case side2=>exact HC1.out);rintro e w12 ⟨rfl,hb⟩;refine ⟨_,rfl, ?_⟩;replace HB:=bsa HB hb;(try clear hb))|((with_reducible refine gate_callee (f:=61) rfl ?_);refine gL 23 Try.func61 #[.int .i64 a3] ?_;(with_reducible refine (gangsawref31_least.calls a3 true _ A9.out).mono ?_);rintro e w' ⟨rfl,⟨nd,rfl⟩⟩;refine ⟨_,rfl, ?_⟩))
    go_ret
    exact ⟨by first|rfl|(simp [errW_none,errW_some] <;> rfl)|(simp [*,errW_none,errW_some] <;> rfl),by repeat (first|(with_reducible first|exact HB.out|apply lA|apply lN|apply lD)|exact HB.out)⟩
   ·replace c10:=Bool.eq_false_iff.mpr c10;subst c10
    have H1 : (some 6) = some r:=by rw [if_neg (show ¬ (false = true) by decide)] at H;exact H
    clear H;have H:=H1;clear H1;obtain rfl:=Option.some.inj H
    go_enter Try.func31,Try.ntmps31
    go_wp2_with (first|((with_reducible refine gate_callee (f:=21) rfl ?_);refine gL 12 Try.func21 #[.slice A0 l0.length c0] ?_;(with_reducible refine (gangsawref31_Check.calls k _ _ l0 t511 _ ?side1 ?side2 A5.out).mono ?_);(case side1=>repeat (first|exact HR0.out|(with_reducible first|apply kA|apply kN|apply kD)));(case side2=>exact HC0.out);rintro e w13 ⟨rfl,hb⟩;refine ⟨_,rfl, ?_⟩;replace HB:=bsa HB hb;(try clear hb))|((with_reducible refine gate_callee (f:=56) rfl ?_);refine gL 18 Try.func56 #[.slice A1 l1.length c1,.int .i64 a2] ?_;(with_reducible refine (gangsawref31_Wants.calls k _ _ l1 a2 t512 _ ?side1 ?side2 A7.out).mono ?_);(case side1=>exact cq HR1.out HB.out);(case side2=>exact HC1.out);rintro e w14 ⟨rfl,hb⟩;refine ⟨_,rfl, ?_⟩;replace HB:=bsa HB hb;(try clear hb))|((with_reducible refine gate_callee (f:=61) rfl ?_);refine gL 23 Try.func61 #[.int .i64 a3] ?_;(with_reducible refine (gangsawref31_least.calls a3 false _ A9.out).mono ?_);rintro e w' ⟨rfl,⟨nd,rfl⟩⟩;refine ⟨_,rfl, ?_⟩))
    go_ret
    exact ⟨by first|rfl|(simp [errW_none,errW_some] <;> rfl)|(simp [*,errW_none,errW_some] <;> rfl),by repeat (first|(with_reducible first|exact HB.out|apply lA|apply lN|apply lD)|exact HB.out)⟩
  ·rw [if_neg c8] at H;have c8b0 : (t512 == 0) = false:=beq_eq_false_iff_ne.mpr c8;have c8b1 : (t512 != 0) = true:=bne_iff_ne.mpr c8;obtain rfl:=Option.some.inj H
   go_enter Try.func31,Try.ntmps31
   go_wp2_with (first|((with_reducible refine gate_callee (f:=21) rfl ?_);refine gL 12 Try.func21 #[.slice A0 l0.length c0] ?_;(with_reducible refine (gangsawref31_Check.calls k _ _ l0 t511 _ ?side1 ?side2 A5.out).mono ?_);(case side1=>repeat (first|exact HR0.out|(with_reducible first|apply kA|apply kN|apply kD)));(case side2=>exact HC0.out);rintro e w15 ⟨rfl,hb⟩;refine ⟨_,rfl, ?_⟩;replace HB:=bsa HB hb;(try clear hb))|((with_reducible refine gate_callee (f:=56) rfl ?_);refine gL 18 Try.func56 #[.slice A1 l1.length c1,.int .i64 a2] ?_;(with_reducible refine (gangsawref31_Wants.calls k _ _ l1 a2 t512 _ ?side1 ?side2 A7.out).mono ?_);(case side1=>exact cq HR1.out HB.out);(case side2=>exact HC1.out);rintro e w16 ⟨rfl,hb⟩;refine ⟨_,rfl, ?_⟩;replace HB:=bsa HB hb;(try clear hb)))
   go_ret
   exact ⟨by first|rfl|(simp [errW_none,errW_some] <;> rfl)|(simp [*,errW_none,errW_some] <;> rfl),by repeat (first|(with_reducible first|exact HB.out|apply lA|apply lN|apply lD)|exact HB.out)⟩
 ·rw [if_neg c6] at H;have c6b0 : (t511 == 0) = false:=beq_eq_false_iff_ne.mpr c6;have c6b1 : (t511 != 0) = true:=bne_iff_ne.mpr c6;obtain rfl:=Option.some.inj H
  go_enter Try.func31,Try.ntmps31
  go_wp2_with (first|((with_reducible refine gate_callee (f:=21) rfl ?_);refine gL 12 Try.func21 #[.slice A0 l0.length c0] ?_;(with_reducible refine (gangsawref31_Check.calls k _ _ l0 t511 _ ?side1 ?side2 A5.out).mono ?_);(case side1=>repeat (first|exact HR0.out|(with_reducible first|apply kA|apply kN|apply kD)));(case side2=>exact HC0.out);rintro e w17 ⟨rfl,hb⟩;refine ⟨_,rfl, ?_⟩;replace HB:=bsa HB hb;(try clear hb)))
  go_ret
  exact ⟨by first|rfl|(simp [errW_none,errW_some] <;> rfl)|(simp [*,errW_none,errW_some] <;> rfl),by repeat (first|(with_reducible first|exact HB.out|apply lA|apply lN|apply lD)|exact HB.out)⟩
-- GIVEN: function 62 (gangsawref31_put)
end Go.Proofs.Ytbggjmdelnmilaa.PA
