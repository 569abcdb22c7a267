import Derived.Test.YtbggjmdelnmilaaPAx12
import Derived.Test.YtbggjmdelnmilaaPAx75
import Derived.Test.YtbggjmdelnmilaaPAx8
namespace Go.Proofs.Ytbggjmdelnmilaa.PA
open Go.RowKit Go.Proofs.YtbggjmdelnmilaaW.PrintWords Go.Proofs.YtbggjmdelnmilaaW.PrintLast Go.Proofs.YtbggjmdelnmilaaW.PrintMore
attribute [local go_sem] max2_int min2_int max_two min_two max_three min_three max_four min_four
set_option linter.unusedVariables false
set_option linter.unusedSimpArgs false
def gangsawlaw31_OffcutStocks.j0 : Nat → List (S39) → Bool → Option (Bool)
 | 0,_,_=>none
 | k + 1,x0,x17=>if x17 = true then (some true) else ((offcut_Volume.f k x0).bind fun bt365=>((gangsawref31_Check.f k x0).bind fun t367=>((offcut_Check.f x0).bind fun t368=>(if t368 = t367 then (if t367 = 0 then ((gangsawref31_Volume.f k x0).bind fun bt369=>(if bt369.2 = true then (if bt365.2 = 0 then (some (bt365.1 == bt369.1)) else (none)) else (if bt365.2 = 6 then (some (bt365.1 == 0)) else (none)))) else (if bt365.2 = t367 then (some (bt365.1 == 0)) else (none))) else (none)))))
def gangsawlaw31_OffcutStocks.f (k : Nat) (l0 : List (S39)) : Option (Bool):=(gangsawlaw31_awake.f k).bind fun t363=>(if t363 = true then ((gangsawref31_Small.f k l0 30).bind fun t364=>(if t364 = true then (gangsawlaw31_OffcutStocks.j0 k l0 false) else (gangsawlaw31_OffcutStocks.j0 k l0 (decide ((l0.length : Int) ≤ 256))))) else (none))
set_option maxHeartbeats 8000000 in
set_option maxRecDepth 100000 in
theorem gangsawlaw31_OffcutStocks.calls (k : Nat) (A0 : Option Addr) (c0 : Nat) (l0 : List (S39)) (r : Bool) (w : World) (hr0 : Kd.C k39 w A0 l0.length l0) (hc0 : l0.length ≤ c0) (h : gangsawlaw31_OffcutStocks.f k l0 = some r) :
  Calls Try.prog 5 #[.slice A0 l0.length c0] w fun e w'=>e = .returned (.bool r) ∧ Below w.heap.size w w':=by
 have HR0:=am hr0;have HC0:=am hc0;clear hr0 hc0;have HB:=am (Below.refl w.heap.size w);have H : ((gangsawlaw31_awake.f k).bind fun t363=>(if t363 = true then ((gangsawref31_Small.f k l0 30).bind fun t364=>(if t364 = true then (gangsawlaw31_OffcutStocks.j0 k l0 false) else (gangsawlaw31_OffcutStocks.j0 k l0 (decide ((l0.length : Int) ≤ 256))))) else (none))) = some r:=h;clear h;replace H:=Option.bind_eq_some_iff.mp H;obtain ⟨t363,A20,H⟩ := H;replace H : (if t363 = true then ((gangsawref31_Small.f k l0 30).bind fun t364=>(if t364 = true then (gangsawlaw31_OffcutStocks.j0 k l0 false) else (gangsawlaw31_OffcutStocks.j0 k l0 (decide ((l0.length : Int) ≤ 256))))) else (none)) = some r:=H;have A2:=am A20;clear A20;by_cases c3 : t363 = true
 ·subst c3
  have H1 : ((gangsawref31_Small.f k l0 30).bind fun t364=>(if t364 = true then (gangsawlaw31_OffcutStocks.j0 k l0 false) else (gangsawlaw31_OffcutStocks.j0 k l0 (decide ((l0.length : Int) ≤ 256))))) = some r:=by rw [if_pos rfl] at H;exact H
  clear H;have H:=H1;clear H1;have HC4:=am H;clear H
  go_enter Try.func5,Try.ntmps5
  go_upto_region 3 with (first|((with_reducible refine gate_callee (f:=11) rfl ?_);refine gL 8 Try.func11 #[] ?_;(with_reducible refine (gangsawlaw31_awake.calls k  true _ A2.out).mono ?_);rintro e w5 ⟨rfl,hb⟩;refine ⟨_,rfl, ?_⟩;replace HB:=bsa HB hb;(try clear hb)))
  (try simp only [Act.put,sA,s0,sS])
  go_cut [17] (fun v17 wc=>∃ (kq : Nat) (x17_3 : Bool),v17 = .bool x17_3 ∧ Aside0 (gangsawlaw31_OffcutStocks.j0 kq l0 x17_3 = some r) ∧ Aside0 (kq ≤ k) ∧ Aside0 (Below w.heap.size w wc))
  case first =>
   have H:=HC4.out;clear HC4;replace H:=Option.bind_eq_some_iff.mp H;obtain ⟨t364,A60,H⟩ := H;replace H : (if t364 = true then (gangsawlaw31_OffcutStocks.j0 k l0 false) else (gangsawlaw31_OffcutStocks.j0 k l0 (decide ((l0.length : Int) ≤ 256)))) = some r:=H;have A6:=am A60;clear A60;by_cases c7 : t364 = true
   ·subst c7
    have H1 : (gangsawlaw31_OffcutStocks.j0 k l0 false) = some r:=by rw [if_pos rfl] at H;exact H
    clear H;have H:=H1;clear H1;have H':=am H;clear H
    go_wp2_with (first|((with_reducible refine gate_callee (f:=12) rfl ?_);refine gL 11 Try.func12 #[.slice A0 l0.length c0,.int .i64 30] ?_;(with_reducible refine (gangsawref31_Small.calls k _ _ l0 30 true _ ?side1 ?side2 A6.out).mono ?_);(case side1=>exact cq HR0.out HB.out);(case side2=>exact HC0.out);rintro e w' ⟨rfl,⟨nd,rfl⟩⟩;refine ⟨_,rfl, ?_⟩))
    go_meet
    case rel=>exact ⟨_,(false),(by first|rfl|(simp;done)|(simp [*];done)),H',⟨by first|omega|exact Nat.le_refl _⟩,⟨by repeat (first|(with_reducible first|exact HB.out|apply lA|apply lN|apply lD)|exact HB.out)⟩⟩
   ·replace c7:=Bool.eq_false_iff.mpr c7;subst c7
    have H1 : (gangsawlaw31_OffcutStocks.j0 k l0 (decide ((l0.length : Int) ≤ 256))) = some r:=by rw [if_neg (show ¬ (false = true) by decide)] at H;exact H
    clear H;have H:=H1;clear H1;have H':=am H;clear H
    go_wp2_with (first|((with_reducible refine gate_callee (f:=12) rfl ?_);refine gL 11 Try.func12 #[.slice A0 l0.length c0,.int .i64 30] ?_;(with_reducible refine (gangsawref31_Small.calls k _ _ l0 30 false _ ?side1 ?side2 A6.out).mono ?_);(case side1=>exact cq HR0.out HB.out);(case side2=>exact HC0.out);rintro e w' ⟨rfl,⟨nd,rfl⟩⟩;refine ⟨_,rfl, ?_⟩))
    go_meet
    case rel=>exact ⟨_,(decide ((l0.length : Int) ≤ 256)),(by first|rfl|(simp;done)|(simp [*];done)),H',⟨by first|omega|exact Nat.le_refl _⟩,⟨by repeat (first|(with_reducible first|exact HB.out|apply lA|apply lN|apply lD)|exact HB.out)⟩⟩
  case rest =>
   clear HC4
   try clear c1
   try clear p2
   try clear c3
   try clear c5
   try clear c7
   obtain ⟨kq,x17_3,rfl,HA,HJ3,HB⟩ := hcut
   cases kq with
   | zero=>exact absurd HA.out (by simp [gangsawlaw31_OffcutStocks.j0])
   | succ kj3 =>
    have H:=HA.out;clear HA;simp only [gangsawlaw31_OffcutStocks.j0] at H;by_cases c8 : x17_3 = true
    ·subst c8
     have H1 : (some true) = some r:=by rw [if_pos rfl] at H;exact H
     clear H;have H:=H1;clear H1;obtain rfl:=Option.some.inj H
     go_wp2
     go_ret
     exact ⟨by first|rfl|(simp [errW_none,errW_some] <;> rfl)|(simp [*,errW_none,errW_some] <;> rfl),by repeat (first|(with_reducible first|exact HB.out|apply lA|apply lN|apply lD)|exact HB.out)⟩
    ·replace c8:=Bool.eq_false_iff.mpr c8;subst c8
     have H1 : ((offcut_Volume.f kj3 l0).bind fun bt365=>((gangsawref31_Check.f kj3 l0).bind fun t367=>((offcut_Check.f l0).bind fun t368=>(if t368 = t367 then (if t367 = 0 then ((gangsawref31_Volume.f kj3 l0).bind fun bt369=>(if bt369.2 = true then (if bt365.2 = 0 then (some (bt365.1 == bt369.1)) else (none)) else (if bt365.2 = 6 then (some (bt365.1 == 0)) else (none)))) else (if bt365.2 = t367 then (some (bt365.1 == 0)) else (none))) else (none))))) = some r:=by rw [if_neg (show ¬ (false = true) by decide)] at H;exact H
     clear H;have H:=H1;clear H1;replace H:=Option.bind_eq_some_iff.mp H;obtain ⟨⟨t365,t366⟩,A90,H⟩ := H;replace H : ((gangsawref31_Check.f kj3 l0).bind fun t367=>((offcut_Check.f l0).bind fun t368=>(if t368 = t367 then (if t367 = 0 then ((gangsawref31_Volume.f kj3 l0).bind fun bt369=>(if bt369.2 = true then (if t366 = 0 then (some (t365 == bt369.1)) else (none)) else (if t366 = 6 then (some (t365 == 0)) else (none)))) else (if t366 = t367 then (some (t365 == 0)) else (none))) else (none)))) = some r:=H;have A9:=am A90;clear A90;replace H:=Option.bind_eq_some_iff.mp H;obtain ⟨t367,A100,H⟩ := H;replace H : ((offcut_Check.f l0).bind fun t368=>(if t368 = t367 then (if t367 = 0 then ((gangsawref31_Volume.f kj3 l0).bind fun bt369=>(if bt369.2 = true then (if t366 = 0 then (some (t365 == bt369.1)) else (none)) else (if t366 = 6 then (some (t365 == 0)) else (none)))) else (if t366 = t367 then (some (t365 == 0)) else (none))) else (none))) = some r:=H;have A10:=am A100;clear A100;replace H:=Option.bind_eq_some_iff.mp H;obtain ⟨t368,A110,H⟩ := H;replace H : (if t368 = t367 then (if t367 = 0 then ((gangsawref31_Volume.f kj3 l0).bind fun bt369=>(if bt369.2 = true then (if t366 = 0 then (some (t365 == bt369.1)) else (none)) else (if t366 = 6 then (some (t365 == 0)) else (none)))) else (if t366 = t367 then (some (t365 == 0)) else (none))) else (none)) = some r:=H;have A11:=am A110;clear A110;by_cases c12 : t368 = t367
     ·rw [if_pos c12] at H;have c12b0 : (t368 == t367) = true:=beq_iff_eq.mpr c12;have c12b1 : (t368 != t367) = false:=bne_eq_false_iff_eq.mpr c12;clear c12;by_cases c13 : t367 = 0
      ·rw [if_pos c13] at H;have c13b0 : (t367 == 0) = true:=beq_iff_eq.mpr c13;have c13b1 : (t367 != 0) = false:=bne_eq_false_iff_eq.mpr c13;clear c13;replace H:=Option.bind_eq_some_iff.mp H;obtain ⟨⟨t369,t370⟩,A140,H⟩ := H;replace H : (if t370 = true then (if t366 = 0 then (some (t365 == t369)) else (none)) else (if t366 = 6 then (some (t365 == 0)) else (none))) = some r:=H;have A14:=am A140;clear A140;by_cases c15 : t370 = true
       ·subst c15
        have H1 : (if t366 = 0 then (some (t365 == t369)) else (none)) = some r:=by rw [if_pos rfl] at H;exact H
        clear H;have H:=H1;clear H1;by_cases c16 : t366 = 0
        ·rw [if_pos c16] at H;have c16b0 : (t366 == 0) = true:=beq_iff_eq.mpr c16;have c16b1 : (t366 != 0) = false:=bne_eq_false_iff_eq.mpr c16;clear c16;obtain rfl:=Option.some.inj H
         go_wp2_with (first|((with_reducible refine gate_callee (f:=16) rfl ?_);refine gL 20 Try.func16 #[.slice A0 l0.length c0] ?_;(with_reducible refine (offcut_Volume.calls kj3 _ _ l0 t365 t366 _ ?side1 ?side2 A9.out).mono ?_);(case side1=>exact cq HR0.out HB.out);(case side2=>exact HC0.out);rintro e w17 ⟨rfl,hb⟩;refine ⟨_,rfl, ?_⟩;replace HB:=bsa HB hb;(try clear hb))|((with_reducible refine gate_callee (f:=21) rfl ?_);refine gL 24 Try.func21 #[.slice A0 l0.length c0] ?_;(with_reducible refine (gangsawref31_Check.calls kj3 _ _ l0 t367 _ ?side1 ?side2 A10.out).mono ?_);(case side1=>exact cq HR0.out HB.out);(case side2=>exact HC0.out);rintro e w18 ⟨rfl,hb⟩;refine ⟨_,rfl, ?_⟩;replace HB:=bsa HB hb;(try clear hb))|((with_reducible refine gate_callee (f:=17) rfl ?_);refine gL 26 Try.func17 #[.slice A0 l0.length c0] ?_;(with_reducible refine (offcut_Check.calls _ _ l0 t368 _ ?side1 ?side2 A11.out).mono ?_);(case side1=>exact cq HR0.out HB.out);(case side2=>exact HC0.out);rintro e w19 ⟨rfl,hb⟩;refine ⟨_,rfl, ?_⟩;replace HB:=bsa HB hb;(try clear hb))|((with_reducible refine gate_callee (f:=22) rfl ?_);refine gL 40 Try.func22 #[.slice A0 l0.length c0] ?_;(with_reducible refine (gangsawref31_Volume.calls kj3 _ _ l0 t369 true _ ?side1 ?side2 A14.out).mono ?_);(case side1=>exact cq HR0.out HB.out);(case side2=>exact HC0.out);rintro e w20 ⟨rfl,hb⟩;refine ⟨_,rfl, ?_⟩;replace HB:=bsa HB hb;(try clear hb)))
         go_ret
         exact ⟨by first|rfl|(simp [errW_none,errW_some] <;> rfl)|(simp [*,errW_none,errW_some] <;> rfl),by repeat (first|(with_reducible first|exact HB.out|apply lA|apply lN|apply lD)|exact HB.out)⟩
        (rw [if_neg c16] at H;exact absurd H (by simp))
       ·replace c15:=Bool.eq_false_iff.mpr c15;subst c15
        have H1 : (if t366 = 6 then (some (t365 == 0)) else (none)) = some r:=by rw [if_neg (show ¬ (false = true) by decide)] at H;exact H
        clear H;have H:=H1;clear H1;by_cases c21 : t366 = 6
        ·rw [if_pos c21] at H;have c21b0 : (t366 == 6) = true:=beq_iff_eq.mpr c21;have c21b1 : (t366 != 6) = false:=bne_eq_false_iff_eq.mpr c21;clear c21;obtain rfl:=Option.some.inj H
         go_wp2_with (first|((with_reducible refine gate_callee (f:=16) rfl ?_);refine gL 20 Try.func16 #[.slice A0 l0.length c0] ?_;(with_reducible refine (offcut_Volume.calls kj3 _ _ l0 t365 t366 _ ?side1 ?side2 A9.out).mono ?_);(case side1=>exact cq HR0.out HB.out);(case side2=>exact HC0.out);rintro e w22 ⟨rfl,hb⟩;refine ⟨_,rfl, ?_⟩;replace HB:=bsa HB hb;(try clear hb))|((with_reducible refine gate_callee (f:=21) rfl ?_);refine gL 24 Try.func21 #[.slice A0 l0.length c0] ?_;(with_reducible refine (gangsawref31_Check.calls kj3 _ _ l0 t367 _ ?side1 ?side2 A10.out).mono ?_);(case side1=>exact cq HR0.out HB.out);(case side2=>exact HC0.out);rintro e w23 ⟨rfl,hb⟩;refine ⟨_,rfl, ?_⟩;replace HB:=bsa HB hb;(try clear hb))|((with_reducible refine gate_callee (f:=17) rfl ?_);refine gL 26 Try.func17 #[.slice A0 l0.length c0] ?_;(with_reducible refine (offcut_Check.calls _ _ l0 t368 _ ?side1 ?side2 A11.out).mono ?_);(case side1=>exact cq HR0.out HB.out);(case side2=>exact HC0.out);rintro e w24 ⟨rfl,hb⟩;refine ⟨_,rfl, ?_⟩;replace HB:=bsa HB hb;(try clear hb))|((with_reducible refine gate_callee (f:=22) rfl ?_);refine gL 40 Try.func22 #[.slice A0 l0.length c0] ?_;(with_reducible refine (gangsawref31_Volume.calls kj3 _ _ l0 t369 false _ ?side1 ?side2 A14.out).mono ?_);(case side1=>exact cq HR0.out HB.out);(case side2=>exact HC0.out);rintro e w25 ⟨rfl,hb⟩;refine ⟨_,rfl, ?_⟩;replace HB:=bsa HB hb;(try clear hb)))
         go_ret
         exact ⟨by first|rfl|(simp [errW_none,errW_some] <;> rfl)|(simp [*,errW_none,errW_some] <;> rfl),by repeat (first|(with_reducible first|exact HB.out|apply lA|apply lN|apply lD)|exact HB.out)⟩
        (rw [if_neg c21] at H;exact absurd H (by simp))
      ·rw [if_neg c13] at H;have c13b0 : (t367 == 0) = false:=beq_eq_false_iff_ne.mpr c13;have c13b1 : (t367 != 0) = true:=bne_iff_ne.mpr c13;by_cases c26 : t366 = t367
       ·rw [if_pos c26] at H;have c26b0 : (t366 == t367) = true:=beq_iff_eq.mpr c26;have c26b1 : (t366 != t367) = false:=bne_eq_false_iff_eq.mpr c26;clear c26;obtain rfl:=Option.some.inj H
        go_wp2_with (first|((with_reducible refine gate_callee (f:=16) rfl ?_);refine gL 20 Try.func16 #[.slice A0 l0.length c0] ?_;(with_reducible refine (offcut_Volume.calls kj3 _ _ l0 t365 t366 _ ?side1 ?side2 A9.out).mono ?_);(case side1=>exact cq HR0.out HB.out);(case side2=>exact HC0.out);rintro e w27 ⟨rfl,hb⟩;refine ⟨_,rfl, ?_⟩;replace HB:=bsa HB hb;(try clear hb))|((with_reducible refine gate_callee (f:=21) rfl ?_);refine gL 24 Try.func21 #[.slice A0 l0.length c0] ?_;(with_reducible refine (gangsawref31_Check.calls kj3 _ _ l0 t367 _ ?side1 ?side2 A10.out).mono ?_);(case side1=>exact cq HR0.out HB.out);(case side2=>exact HC0.out);rintro e w28 ⟨rfl,hb⟩;refine ⟨_,rfl, ?_⟩;replace HB:=bsa HB hb;(try clear hb))|((with_reducible refine gate_callee (f:=17) rfl ?_);refine gL 26 Try.func17 #[.slice A0 l0.length c0] ?_;(with_reducible refine (offcut_Check.calls _ _ l0 t368 _ ?side1 ?side2 A11.out).mono ?_);(case side1=>exact cq HR0.out HB.out);(case side2=>exact HC0.out);rintro e w29 ⟨rfl,hb⟩;refine ⟨_,rfl, ?_⟩;replace HB:=bsa HB hb;(try clear hb)))
        go_ret
        exact ⟨by first|rfl|(simp [errW_none,errW_some] <;> rfl)|(simp [*,errW_none,errW_some] <;> rfl),by repeat (first|(with_reducible first|exact HB.out|apply lA|apply lN|apply lD)|exact HB.out)⟩
       (rw [if_neg c26] at H;exact absurd H (by simp))
     (rw [if_neg c12] at H;exact absurd H (by simp))
 ·replace c3:=Bool.eq_false_iff.mpr c3;subst c3
  have H1 : (none) = some r:=by rw [if_neg (show ¬ (false = true) by decide)] at H;exact H
  clear H;have H:=H1;clear H1;exact absurd H (by simp)
end Go.Proofs.Ytbggjmdelnmilaa.PA
