import Derived.Test.YtbggjmdelnmilaaPAx11
import Derived.WalkLawsBesides
namespace Go.Proofs.Ytbggjmdelnmilaa.PA
open Go.RowKit Go.Proofs.YtbggjmdelnmilaaW.PrintWords Go.Proofs.YtbggjmdelnmilaaW.PrintLast Go.Proofs.YtbggjmdelnmilaaW.PrintMore
attribute [local go_sem] max2_int min2_int max_two min_two max_three min_three max_four min_four
set_option linter.unusedVariables false
set_option linter.unusedSimpArgs false
mutual
def gangsawref31_Wants.l0 : Nat → List (S26) → Int → Int → Option (Int)
 | 0,_,_,_=>none
 | k + 1,x0,x1,x5=>if x5 < (x0.length : Int) then (if 0 ≤ x5 then ((gangsawref19_Name.f k ((rd_T26 x0 x5).f0)).bind fun t372=>(if t372 = true then ((gangsawref31_optional.f k ((rd_T26 x0 x5).f3)).bind fun t374=>(if t374 = true then (gangsawref31_Wants.l0 k x0 x1 (wrap64 (x5 + 1))) else (some 4))) else (some 4))) else (none)) else (gangsawref31_Wants.l1 k x0 x1 0)
def gangsawref31_Wants.l1 : Nat → List (S26) → Int → Int → Option (Int)
 | 0,_,_,_=>none
 | k + 1,x0,x1,x6=>if x6 < (x0.length : Int) then (if 0 ≤ x6 then ((gangsawref31_size.f ((rd_T26 x0 x6).f1.f0) ((rd_T26 x0 x6).f1.f1) ((rd_T26 x0 x6).f1.f2)).bind fun t376=>(if t376 = true then ((gangsawref31_colour.f ((rd_T26 x0 x6).f2)).bind fun t378=>(if t378 = true then (gangsawref31_Wants.l1 k x0 x1 (wrap64 (x6 + 1))) else (some 6))) else (some 6))) else (none)) else (if x1 < 0 then (some 6) else (if x1 > 1000 then (some 6) else (some 0)))
end
def gangsawref31_Wants.f (k : Nat) (l0 : List (S26)) (a1 : Int) : Option (Int):=if (l0.length : Int) > 256 then (some 7) else (gangsawref31_Wants.l0 k l0 a1 0)
set_option maxHeartbeats 8000000 in
set_option maxRecDepth 100000 in
theorem gangsawref31_Wants.calls (k : Nat) (A0 : Option Addr) (c0 : Nat) (l0 : List (S26)) (a1 : Int) (r : Int) (w : World) (hr0 : Kd.C k26 w A0 l0.length l0) (hc0 : l0.length ≤ c0) (h : gangsawref31_Wants.f k l0 a1 = some r) :
  Calls Try.prog 56 #[.slice A0 l0.length c0,.int .i64 a1] w fun e w'=>e = .returned (.int .i64 r) ∧ Below w.heap.size w w':=by
 have hu24:=Try.underlying24;have HR0:=am hr0;have HC0:=am hc0;clear hr0 hc0;have HB:=am (Below.refl w.heap.size w);have H : (if (l0.length : Int) > 256 then (some 7) else (gangsawref31_Wants.l0 k l0 a1 0)) = some r:=h;clear h;by_cases c3 : (l0.length : Int) > 256
 ·rw [if_pos c3] at H;have c3b0 : decide (256 < (l0.length : Int)) = true:=decide_eq_true c3;have c3b1 : decide (256 < l0.length) = true:=decide_eq_true (by omega);clear c3;obtain rfl:=Option.some.inj H
  go_enter Try.func56,Try.ntmps56
  go_wp2
  go_ret
  exact ⟨by first|rfl|(simp [errW_none,errW_some] <;> rfl)|(simp [*,errW_none,errW_some] <;> rfl),by repeat (first|(with_reducible first|exact HB.out|apply lA|apply lN|apply lD)|exact HB.out)⟩
 ·rw [if_neg c3] at H;have c3b0 : decide (256 < (l0.length : Int)) = false:=decide_eq_false c3;have c3b1 : decide (256 < l0.length) = false:=decide_eq_false (by omega);clear c3;have H':=am H;clear H
  go_enter Try.func56,Try.ntmps56
  go_wp2
  go_loopg [5] k (fun kq v5 w'=>∃ (x5_1 : Int),v5 = .int .i64 x5_1 ∧ Aside0 (gangsawref31_Wants.l0 kq l0 a1 x5_1 = some r) ∧ Aside0 (kq ≤ k) ∧ Aside0 (Below w.heap.size w w'))
  case atStart=>exact ⟨(0),(by first|rfl|(simp;done)|(simp [*];done)),H',⟨Nat.le_refl _⟩,⟨by repeat (first|(with_reducible first|exact HB.out|apply lA|apply lN|apply lD)|exact HB.out)⟩⟩
  case round =>
   clear H'
   try clear p2
   try clear c3
   try clear c3b0
   try clear c3b1
   obtain ⟨x5_1,rfl,HA,HK1,HB⟩ := hrel
   cases gk with
   | zero=>exact absurd HA.out (by simp [gangsawref31_Wants.l0])
   | succ k1 =>
    have H:=HA.out;clear HA;simp only [gangsawref31_Wants.l0] at H;by_cases c4 : x5_1 < (l0.length : Int)
    ·rw [if_pos c4] at H;have c4b0 : decide (x5_1 < (l0.length : Int)) = true:=decide_eq_true c4;clear c4;by_cases c5 : 0 ≤ x5_1
     ·rw [if_pos c5] at H;have c5b0 : decide (0 ≤ x5_1) = true:=decide_eq_true c5;clear c5;replace H:=Option.bind_eq_some_iff.mp H;obtain ⟨t372,A60,H⟩ := H;replace H : (if t372 = true then ((gangsawref31_optional.f k1 ((rd_T26 l0 x5_1).f3)).bind fun t374=>(if t374 = true then (gangsawref31_Wants.l0 k1 l0 a1 (wrap64 (x5_1 + 1))) else (some 4))) else (some 4)) = some r:=H;have A6:=am A60;clear A60;by_cases c7 : t372 = true
      ·subst c7
       have H1 : ((gangsawref31_optional.f k1 ((rd_T26 l0 x5_1).f3)).bind fun t374=>(if t374 = true then (gangsawref31_Wants.l0 k1 l0 a1 (wrap64 (x5_1 + 1))) else (some 4))) = some r:=by rw [if_pos rfl] at H;exact H
       clear H;have H:=H1;clear H1;replace H:=Option.bind_eq_some_iff.mp H;obtain ⟨t374,A80,H⟩ := H;replace H : (if t374 = true then (gangsawref31_Wants.l0 k1 l0 a1 (wrap64 (x5_1 + 1))) else (some 4)) = some r:=H;have A8:=am A80;clear A80;by_cases c9 : t374 = true
       ·subst c9
        have H1 : (gangsawref31_Wants.l0 k1 l0 a1 (wrap64 (x5_1 + 1))) = some r:=by rw [if_pos rfl] at H;exact H
        clear H;have H:=H1;clear H1;have H':=am H;clear H;have p371 : 0 ≤ (x5_1 : Int):=dt;have q371 : x5_1 < (l0.length : Int):=dt;obtain ⟨ad371,e371,hx371_0,hx371_1,hx371_2,hx371_3,hx371_4,hx371_5,hx371_6⟩ := at_T26 HR0.out x5_1 p371 q371
        cases e371
        replace hx371_0:=hc HB hx371_0;replace hx371_1:=hc HB hx371_1;replace hx371_2:=hc HB hx371_2;replace hx371_3:=hc HB hx371_3;replace hx371_4:=hc HB hx371_4;replace hx371_5:=hc HB hx371_5;replace hx371_6:=hc HB hx371_6;replace p371:=eq_true p371;replace q371:=eq_true q371
        go_wp2_with (first|((with_reducible refine gate_callee (f:=48) rfl ?_);refine gL 21 Try.func48 #[.string ((rd_T26 l0 x5_1).f0)] ?_;(with_reducible refine (gangsawref19_Name.calls k1 ((rd_T26 l0 x5_1).f0) true _ A6.out).mono ?_);rintro e w' ⟨rfl,⟨nd,rfl⟩⟩;refine ⟨_,rfl, ?_⟩;have p373 : 0 ≤ (x5_1 : Int):=dt;have q373 : x5_1 < (l0.length : Int):=dt;obtain ⟨ad373,e373,hx373_0,hx373_1,hx373_2,hx373_3,hx373_4,hx373_5,hx373_6⟩ := at_T26 HR0.out x5_1 p373 q373;obtain rfl : ad371 = ad373:=(by injection e373);replace hx373_0:=hc HB hx373_0;replace hx373_1:=hc HB hx373_1;replace hx373_2:=hc HB hx373_2;replace hx373_3:=hc HB hx373_3;replace hx373_4:=hc HB hx373_4;replace hx373_5:=hc HB hx373_5;replace hx373_6:=hc HB hx373_6;replace p373:=eq_true p373;replace q373:=eq_true q373)|(go_at_call 49;(with_reducible refine (gangsawref31_optional.calls k1 ((rd_T26 l0 x5_1).f3) true _ A8.out).mono ?_);rintro e w' ⟨rfl,⟨nd,rfl⟩⟩))
        go_roundg k1
        case measure=>have:=HK1.out;omega
        case rel=>exact ⟨(wrap64 (x5_1 + 1)),(by first|rfl|(simp;done)|(simp [*];done)),H',⟨by have:=HK1.out;omega⟩,⟨by repeat (first|(with_reducible first|exact HB.out|apply lA|apply lN|apply lD)|exact HB.out)⟩⟩
       ·replace c9:=Bool.eq_false_iff.mpr c9;subst c9
        have H1 : (some 4) = some r:=by rw [if_neg (show ¬ (false = true) by decide)] at H;exact H
        clear H;have H:=H1;clear H1;obtain rfl:=Option.some.inj H;have p371 : 0 ≤ (x5_1 : Int):=dt;have q371 : x5_1 < (l0.length : Int):=dt;obtain ⟨ad371,e371,hx371_0,hx371_1,hx371_2,hx371_3,hx371_4,hx371_5,hx371_6⟩ := at_T26 HR0.out x5_1 p371 q371
        cases e371
        replace hx371_0:=hc HB hx371_0;replace hx371_1:=hc HB hx371_1;replace hx371_2:=hc HB hx371_2;replace hx371_3:=hc HB hx371_3;replace hx371_4:=hc HB hx371_4;replace hx371_5:=hc HB hx371_5;replace hx371_6:=hc HB hx371_6;replace p371:=eq_true p371;replace q371:=eq_true q371
        go_wp2_with (first|((with_reducible refine gate_callee (f:=48) rfl ?_);refine gL 21 Try.func48 #[.string ((rd_T26 l0 x5_1).f0)] ?_;(with_reducible refine (gangsawref19_Name.calls k1 ((rd_T26 l0 x5_1).f0) true _ A6.out).mono ?_);rintro e w' ⟨rfl,⟨nd,rfl⟩⟩;refine ⟨_,rfl, ?_⟩;have p373 : 0 ≤ (x5_1 : Int):=dt;have q373 : x5_1 < (l0.length : Int):=dt;obtain ⟨ad373,e373,hx373_0,hx373_1,hx373_2,hx373_3,hx373_4,hx373_5,hx373_6⟩ := at_T26 HR0.out x5_1 p373 q373;obtain rfl : ad371 = ad373:=(by injection e373);replace hx373_0:=hc HB hx373_0;replace hx373_1:=hc HB hx373_1;replace hx373_2:=hc HB hx373_2;replace hx373_3:=hc HB hx373_3;replace hx373_4:=hc HB hx373_4;replace hx373_5:=hc HB hx373_5;replace hx373_6:=hc HB hx373_6;replace p373:=eq_true p373;replace q373:=eq_true q373)|(go_at_call 49;(with_reducible refine (gangsawref31_optional.calls k1 ((rd_T26 l0 x5_1).f3) false _ A8.out).mono ?_);rintro e w' ⟨rfl,⟨nd,rfl⟩⟩))
        go_ret
        exact ⟨by first|rfl|(simp [errW_none,errW_some] <;> rfl)|(simp [*,errW_none,errW_some] <;> rfl),by repeat (first|(with_reducible first|exact HB.out|apply lA|apply lN|apply lD)|exact HB.out)⟩
      ·replace c7:=Bool.eq_false_iff.mpr c7;subst c7
       have H1 : (some 4) = some r:=by rw [if_neg (show ¬ (false = true) by decide)] at H;exact H
       clear H;have H:=H1;clear H1;obtain rfl:=Option.some.inj H;have p371 : 0 ≤ (x5_1 : Int):=dt;have q371 : x5_1 < (l0.length : Int):=dt;obtain ⟨ad371,e371,hx371_0,hx371_1,hx371_2,hx371_3,hx371_4,hx371_5,hx371_6⟩ := at_T26 HR0.out x5_1 p371 q371
       cases e371
       replace hx371_0:=hc HB hx371_0;replace hx371_1:=hc HB hx371_1;replace hx371_2:=hc HB hx371_2;replace hx371_3:=hc HB hx371_3;replace hx371_4:=hc HB hx371_4;replace hx371_5:=hc HB hx371_5;replace hx371_6:=hc HB hx371_6;replace p371:=eq_true p371;replace q371:=eq_true q371
       go_wp2_with (first|((with_reducible refine gate_callee (f:=48) rfl ?_);refine gL 21 Try.func48 #[.string ((rd_T26 l0 x5_1).f0)] ?_;(with_reducible refine (gangsawref19_Name.calls k1 ((rd_T26 l0 x5_1).f0) false _ A6.out).mono ?_);rintro e w' ⟨rfl,⟨nd,rfl⟩⟩;refine ⟨_,rfl, ?_⟩))
       go_ret
       exact ⟨by first|rfl|(simp [errW_none,errW_some] <;> rfl)|(simp [*,errW_none,errW_some] <;> rfl),by repeat (first|(with_reducible first|exact HB.out|apply lA|apply lN|apply lD)|exact HB.out)⟩
     (rw [if_neg c5] at H;exact absurd H (by simp))
    ·rw [if_neg c4] at H;have c4b0 : decide (x5_1 < (l0.length : Int)) = false:=decide_eq_false c4;clear c4;have H':=am H;clear H
     go_wp2
     go_loopg [6] k1 (fun kq v6 w'=>∃ (x6_2 : Int),v6 = .int .i64 x6_2 ∧ Aside0 (gangsawref31_Wants.l1 kq l0 a1 x6_2 = some r) ∧ Aside0 (kq ≤ k1) ∧ Aside0 (Below w.heap.size w w'))
     case atStart=>exact ⟨(0),(by first|rfl|(simp;done)|(simp [*];done)),H',⟨Nat.le_refl _⟩,⟨by repeat (first|(with_reducible first|exact HB.out|apply lA|apply lN|apply lD)|exact HB.out)⟩⟩
     case round =>
      clear H'
      try clear p2
      try clear c3
      try clear c3b0
      try clear c3b1
      try clear p3
      try clear q3
      try clear hx3
      try clear c4
      try clear c4b0
      try clear c5
      try clear c5b0
      try clear p6
      try clear c7
      try clear c9
      try clear hx371_0
      try clear hx371_1
      try clear hx371_2
      try clear hx371_3
      try clear hx371_4
      try clear hx371_5
      try clear hx371_6
      try clear hx373_0
      try clear hx373_1
      try clear hx373_2
      try clear hx373_3
      try clear hx373_4
      try clear hx373_5
      try clear hx373_6
      try clear p2
      try clear p371
      try clear p373
      try clear q371
      try clear q373
      obtain ⟨x6_2,rfl,HA,HK2,HB⟩ := hrel
      cases gk with
      | zero=>exact absurd HA.out (by simp [gangsawref31_Wants.l1])
      | succ k2 =>
       have H:=HA.out;clear HA;simp only [gangsawref31_Wants.l1] at H;by_cases c10 : x6_2 < (l0.length : Int)
       ·rw [if_pos c10] at H;have c10b0 : decide (x6_2 < (l0.length : Int)) = true:=decide_eq_true c10;clear c10;by_cases c11 : 0 ≤ x6_2
        ·rw [if_pos c11] at H;have c11b0 : decide (0 ≤ x6_2) = true:=decide_eq_true c11;clear c11;replace H:=Option.bind_eq_some_iff.mp H;obtain ⟨t376,A120,H⟩ := H;replace H : (if t376 = true then ((gangsawref31_colour.f ((rd_T26 l0 x6_2).f2)).bind fun t378=>(if t378 = true then (gangsawref31_Wants.l1 k2 l0 a1 (wrap64 (x6_2 + 1))) else (some 6))) else (some 6)) = some r:=H;have A12:=am A120;clear A120;by_cases c13 : t376 = true
         ·subst c13
          have H1 : ((gangsawref31_colour.f ((rd_T26 l0 x6_2).f2)).bind fun t378=>(if t378 = true then (gangsawref31_Wants.l1 k2 l0 a1 (wrap64 (x6_2 + 1))) else (some 6))) = some r:=by rw [if_pos rfl] at H;exact H
          clear H;have H:=H1;clear H1;replace H:=Option.bind_eq_some_iff.mp H;obtain ⟨t378,A140,H⟩ := H;replace H : (if t378 = true then (gangsawref31_Wants.l1 k2 l0 a1 (wrap64 (x6_2 + 1))) else (some 6)) = some r:=H;have A14:=am A140;clear A140;by_cases c15 : t378 = true
          ·subst c15
           have H1 : (gangsawref31_Wants.l1 k2 l0 a1 (wrap64 (x6_2 + 1))) = some r:=by rw [if_pos rfl] at H;exact H
           clear H;have H:=H1;clear H1;have H':=am H;clear H;have p375 : 0 ≤ (x6_2 : Int):=dt;have q375 : x6_2 < (l0.length : Int):=dt;obtain ⟨ad375,e375,hx375_0,hx375_1,hx375_2,hx375_3,hx375_4,hx375_5,hx375_6⟩ := at_T26 HR0.out x6_2 p375 q375
           cases e375
           replace hx375_0:=hc HB hx375_0;replace hx375_1:=hc HB hx375_1;replace hx375_2:=hc HB hx375_2;replace hx375_3:=hc HB hx375_3;replace hx375_4:=hc HB hx375_4;replace hx375_5:=hc HB hx375_5;replace hx375_6:=hc HB hx375_6;replace p375:=eq_true p375;replace q375:=eq_true q375
           go_wp2_with (first|((with_reducible refine gate_callee (f:=50) rfl ?_);refine gL 43 Try.func50 #[.agg #[.int .i64 ((rd_T26 l0 x6_2).f1.f0),.int .i64 ((rd_T26 l0 x6_2).f1.f1),.int .i64 ((rd_T26 l0 x6_2).f1.f2)]] ?_;(with_reducible refine (gangsawref31_size.calls ((rd_T26 l0 x6_2).f1.f0) ((rd_T26 l0 x6_2).f1.f1) ((rd_T26 l0 x6_2).f1.f2) true _ A12.out).mono ?_);rintro e w16 ⟨rfl,hb⟩;refine ⟨_,rfl, ?_⟩;replace HB:=bsa HB hb;(try clear hb);have p377 : 0 ≤ (x6_2 : Int):=dt;have q377 : x6_2 < (l0.length : Int):=dt;obtain ⟨ad377,e377,hx377_0,hx377_1,hx377_2,hx377_3,hx377_4,hx377_5,hx377_6⟩ := at_T26 HR0.out x6_2 p377 q377;obtain rfl : ad375 = ad377:=(by injection e377);replace hx377_0:=hc HB hx377_0;replace hx377_1:=hc HB hx377_1;replace hx377_2:=hc HB hx377_2;replace hx377_3:=hc HB hx377_3;replace hx377_4:=hc HB hx377_4;replace hx377_5:=hc HB hx377_5;replace hx377_6:=hc HB hx377_6;replace p377:=eq_true p377;replace q377:=eq_true q377)|(go_at_call 51;(with_reducible refine (gangsawref31_colour.calls ((rd_T26 l0 x6_2).f2) true _ A14.out).mono ?_);rintro e w' ⟨rfl,⟨nd,rfl⟩⟩))
           go_roundg k2
           case measure=>have:=HK1.out;have:=HK2.out;omega
           case rel=>exact ⟨(wrap64 (x6_2 + 1)),(by first|rfl|(simp;done)|(simp [*];done)),H',⟨by have:=HK1.out;have:=HK2.out;omega⟩,⟨by repeat (first|(with_reducible first|exact HB.out|apply lA|apply lN|apply lD)|exact HB.out)⟩⟩
          ·replace c15:=Bool.eq_false_iff.mpr c15;subst c15
           have H1 : (some 6) = some r:=by rw [if_neg (show ¬ (false = true) by decide)] at H;exact H
           clear H;have H:=H1;clear H1;obtain rfl:=Option.some.inj H;have p375 : 0 ≤ (x6_2 : Int):=dt;have q375 : x6_2 < (l0.length : Int):=dt;obtain ⟨ad375,e375,hx375_0,hx375_1,hx375_2,hx375_3,hx375_4,hx375_5,hx375_6⟩ := at_T26 HR0.out x6_2 p375 q375
           cases e375
           replace hx375_0:=hc HB hx375_0;replace hx375_1:=hc HB hx375_1;replace hx375_2:=hc HB hx375_2;replace hx375_3:=hc HB hx375_3;replace hx375_4:=hc HB hx375_4;replace hx375_5:=hc HB hx375_5;replace hx375_6:=hc HB hx375_6;replace p375:=eq_true p375;replace q375:=eq_true q375
           go_wp2_with (first|((with_reducible refine gate_callee (f:=50) rfl ?_);refine gL 43 Try.func50 #[.agg #[.int .i64 ((rd_T26 l0 x6_2).f1.f0),.int .i64 ((rd_T26 l0 x6_2).f1.f1),.int .i64 ((rd_T26 l0 x6_2).f1.f2)]] ?_;(with_reducible refine (gangsawref31_size.calls ((rd_T26 l0 x6_2).f1.f0) ((rd_T26 l0 x6_2).f1.f1) ((rd_T26 l0 x6_2).f1.f2) true _ A12.out).mono ?_);rintro e w17 ⟨rfl,hb⟩;refine ⟨_,rfl, ?_⟩;replace HB:=bsa HB hb;(try clear hb);have p377 : 0 ≤ (x6_2 : Int):=dt;have q377 : x6_2 < (l0.length : Int):=dt;obtain ⟨ad377,e377,hx377_0,hx377_1,hx377_2,hx377_3,hx377_4,hx377_5,hx377_6⟩ := at_T26 HR0.out x6_2 p377 q377;obtain rfl : ad375 = ad377:=(by injection e377);replace hx377_0:=hc HB hx377_0;replace hx377_1:=hc HB hx377_1;replace hx377_2:=hc HB hx377_2;replace hx377_3:=hc HB hx377_3;replace hx377_4:=hc HB hx377_4;replace hx377_5:=hc HB hx377_5;replace hx377_6:=hc HB hx377_6;replace p377:=eq_true p377;replace q377:=eq_true q377)|(go_at_call 51;(with_reducible refine (gangsawref31_colour.calls ((rd_T26 l0 x6_2).f2) false _ A14.out).mono ?_);rintro e w' ⟨rfl,⟨nd,rfl⟩⟩))
           go_ret
           exact ⟨by first|rfl|(simp [errW_none,errW_some] <;> rfl)|(simp [*,errW_none,errW_some] <;> rfl),by repeat (first|(with_reducible first|exact HB.out|apply lA|apply lN|apply lD)|exact HB.out)⟩
         ·replace c13:=Bool.eq_false_iff.mpr c13;subst c13
          have H1 : (some 6) = some r:=by rw [if_neg (show ¬ (false = true) by decide)] at H;exact H
          clear H;have H:=H1;clear H1;obtain rfl:=Option.some.inj H;have p375 : 0 ≤ (x6_2 : Int):=dt;have q375 : x6_2 < (l0.length : Int):=dt;obtain ⟨ad375,e375,hx375_0,hx375_1,hx375_2,hx375_3,hx375_4,hx375_5,hx375_6⟩ := at_T26 HR0.out x6_2 p375 q375
          cases e375
          replace hx375_0:=hc HB hx375_0;replace hx375_1:=hc HB hx375_1;replace hx375_2:=hc HB hx375_2;replace hx375_3:=hc HB hx375_3;replace hx375_4:=hc HB hx375_4;replace hx375_5:=hc HB hx375_5;replace hx375_6:=hc HB hx375_6;replace p375:=eq_true p375;replace q375:=eq_true q375
          go_wp2_with (first|((with_reducible refine gate_callee (f:=50) rfl ?_);refine gL 43 Try.func50 #[.agg #[.int .i64 ((rd_T26 l0 x6_2).f1.f0),.int .i64 ((rd_T26 l0 x6_2).f1.f1),.int .i64 ((rd_T26 l0 x6_2).f1.f2)]] ?_;(with_reducible refine (gangsawref31_size.calls ((rd_T26 l0 x6_2).f1.f0) ((rd_T26 l0 x6_2).f1.f1) ((rd_T26 l0 x6_2).f1.f2) false _ A12.out).mono ?_);rintro e w18 ⟨rfl,hb⟩;refine ⟨_,rfl, ?_⟩;replace HB:=bsa HB hb;(try clear hb)))
          go_ret
          exact ⟨by first|rfl|(simp [errW_none,errW_some] <;> rfl)|(simp [*,errW_none,errW_some] <;> rfl),by repeat (first|(with_reducible first|exact HB.out|apply lA|apply lN|apply lD)|exact HB.out)⟩
        (rw [if_neg c11] at H;exact absurd H (by simp))
       ·rw [if_neg c10] at H;have c10b0 : decide (x6_2 < (l0.length : Int)) = false:=decide_eq_false c10;clear c10;by_cases c19 : a1 < 0
        ·rw [if_pos c19] at H;have c19b0 : decide (a1 < 0) = true:=decide_eq_true c19;clear c19;obtain rfl:=Option.some.inj H
         go_wp2
         go_ret
         exact ⟨by first|rfl|(simp [errW_none,errW_some] <;> rfl)|(simp [*,errW_none,errW_some] <;> rfl),by repeat (first|(with_reducible first|exact HB.out|apply lA|apply lN|apply lD)|exact HB.out)⟩
        ·rw [if_neg c19] at H;have c19b0 : decide (a1 < 0) = false:=decide_eq_false c19;clear c19;by_cases c20 : a1 > 1000
         ·rw [if_pos c20] at H;have c20b0 : decide (1000 < a1) = true:=decide_eq_true c20;clear c20;obtain rfl:=Option.some.inj H
          go_wp2
          go_ret
          exact ⟨by first|rfl|(simp [errW_none,errW_some] <;> rfl)|(simp [*,errW_none,errW_some] <;> rfl),by repeat (first|(with_reducible first|exact HB.out|apply lA|apply lN|apply lD)|exact HB.out)⟩
         ·rw [if_neg c20] at H;have c20b0 : decide (1000 < a1) = false:=decide_eq_false c20;clear c20;obtain rfl:=Option.some.inj H
          go_wp2
          go_ret
          exact ⟨by first|rfl|(simp [errW_none,errW_some] <;> rfl)|(simp [*,errW_none,errW_some] <;> rfl),by repeat (first|(with_reducible first|exact HB.out|apply lA|apply lN|apply lD)|exact HB.out)⟩
def gangsawref31_within.f (a0_0 : Int) (a0_1 : Int) (a0_2 : Int) (a1_0 : Int) (a1_1 : Int) (a1_2 : Int) : Option (Bool):=if a0_0 ≤ a1_0 then (if a0_1 ≤ a1_1 then (some (decide (a0_2 ≤ a1_2))) else (some false)) else (some false)
set_option maxHeartbeats 8000000 in
set_option maxRecDepth 100000 in
theorem gangsawref31_within.calls (a0_0 : Int) (a0_1 : Int) (a0_2 : Int) (a1_0 : Int) (a1_1 : Int) (a1_2 : Int) (r : Bool) (w : World) (h : gangsawref31_within.f a0_0 a0_1 a0_2 a1_0 a1_1 a1_2 = some r) :
  Calls Try.prog 57 #[.agg #[.int .i64 a0_0,.int .i64 a0_1,.int .i64 a0_2],.agg #[.int .i64 a1_0,.int .i64 a1_1,.int .i64 a1_2]] w fun e w'=>e = .returned (.bool r) ∧ Below w.heap.size w w':=by
 have hu24:=Try.underlying24;have HB:=am (Below.refl w.heap.size w);have H : (if a0_0 ≤ a1_0 then (if a0_1 ≤ a1_1 then (some (decide (a0_2 ≤ a1_2))) else (some false)) else (some false)) = some r:=h;clear h;by_cases c3 : a0_0 ≤ a1_0
 ·rw [if_pos c3] at H;have c3b0 : decide (a0_0 ≤ a1_0) = true:=decide_eq_true c3;clear c3;by_cases c4 : a0_1 ≤ a1_1
  ·rw [if_pos c4] at H;have c4b0 : decide (a0_1 ≤ a1_1) = true:=decide_eq_true c4;clear c4;obtain rfl:=Option.some.inj H
   go_enter Try.func57,Try.ntmps57
   go_wp2_with (first|((with_reducible refine gate_dst (N:=2) rfl ?_);refine be 2 24 (cs:=#[.int .i64 a0_0,.int .i64 a0_1,.int .i64 a0_2]) ?_;intro gb385 hg w5 hbox hb;have BK385:=am hbox;have GW385:=bza HB hg;have GE385:=bza HB hg;replace HB:=bsa HB hb;clear hb hbox hg)|((with_reducible refine gate_dst (N:=3) rfl ?_);refine be 3 24 (cs:=#[.int .i64 a1_0,.int .i64 a1_1,.int .i64 a1_2]) ?_;intro gb386 hg w6 hbox hb;have BK386:=am hbox;have GW386:=bza HB hg;have GE386:=bza HB hg;have NB385_386:=bla BK385 hg;have NB386_385:=bga BK385 hg;replace BK385:=bba BK385 hb;replace HB:=bsa HB hb;clear hb hbox hg;have hnb7:=NB385_386.out;have hnc7:=NB386_385.out;obtain ⟨hcz8_0,hcz8_1,hcz8_2,hfz8_0,hfz8_1,hfz8_2⟩ := c3_ BK385.out;obtain ⟨hcz9_0,hcz9_1,hcz9_2,hfz9_0,hfz9_1,hfz9_2⟩ := c3_ BK386.out))
   go_ret
   exact ⟨by first|rfl|(simp [errW_none,errW_some] <;> rfl)|(simp [*,errW_none,errW_some] <;> rfl),by repeat (first|(with_reducible first|exact HB.out|apply lA|apply lN|apply lD|refine lS ?_ GE385.out|refine lS ?_ GE386.out)|exact HB.out)⟩
  ·rw [if_neg c4] at H;have c4b0 : decide (a0_1 ≤ a1_1) = false:=decide_eq_false c4;clear c4;obtain rfl:=Option.some.inj H
   go_enter Try.func57,Try.ntmps57
   go_wp2_with (first|((with_reducible refine gate_dst (N:=2) rfl ?_);refine be 2 24 (cs:=#[.int .i64 a0_0,.int .i64 a0_1,.int .i64 a0_2]) ?_;intro gb385 hg w10 hbox hb;have BK385:=am hbox;have GW385:=bza HB hg;have GE385:=bza HB hg;replace HB:=bsa HB hb;clear hb hbox hg)|((with_reducible refine gate_dst (N:=3) rfl ?_);refine be 3 24 (cs:=#[.int .i64 a1_0,.int .i64 a1_1,.int .i64 a1_2]) ?_;intro gb386 hg w11 hbox hb;have BK386:=am hbox;have GW386:=bza HB hg;have GE386:=bza HB hg;have NB385_386:=bla BK385 hg;have NB386_385:=bga BK385 hg;replace BK385:=bba BK385 hb;replace HB:=bsa HB hb;clear hb hbox hg;have hnb12:=NB385_386.out;have hnc12:=NB386_385.out;obtain ⟨hcz13_0,hcz13_1,hcz13_2,hfz13_0,hfz13_1,hfz13_2⟩ := c3_ BK385.out;obtain ⟨hcz14_0,hcz14_1,hcz14_2,hfz14_0,hfz14_1,hfz14_2⟩ := c3_ BK386.out))
   go_ret
   exact ⟨by first|rfl|(simp [errW_none,errW_some] <;> rfl)|(simp [*,errW_none,errW_some] <;> rfl),by repeat (first|(with_reducible first|exact HB.out|apply lA|apply lN|apply lD|refine lS ?_ GE385.out|refine lS ?_ GE386.out)|exact HB.out)⟩
 ·rw [if_neg c3] at H;have c3b0 : decide (a0_0 ≤ a1_0) = false:=decide_eq_false c3;clear c3;obtain rfl:=Option.some.inj H
  go_enter Try.func57,Try.ntmps57
  go_wp2_with (first|((with_reducible refine gate_dst (N:=2) rfl ?_);refine be 2 24 (cs:=#[.int .i64 a0_0,.int .i64 a0_1,.int .i64 a0_2]) ?_;intro gb385 hg w15 hbox hb;have BK385:=am hbox;have GW385:=bza HB hg;have GE385:=bza HB hg;replace HB:=bsa HB hb;clear hb hbox hg)|((with_reducible refine gate_dst (N:=3) rfl ?_);refine be 3 24 (cs:=#[.int .i64 a1_0,.int .i64 a1_1,.int .i64 a1_2]) ?_;intro gb386 hg w16 hbox hb;have BK386:=am hbox;have GW386:=bza HB hg;have GE386:=bza HB hg;have NB385_386:=bla BK385 hg;have NB386_385:=bga BK385 hg;replace BK385:=bba BK385 hb;replace HB:=bsa HB hb;clear hb hbox hg;have hnb17:=NB385_386.out;have hnc17:=NB386_385.out;obtain ⟨hcz18_0,hcz18_1,hcz18_2,hfz18_0,hfz18_1,hfz18_2⟩ := c3_ BK385.out;obtain ⟨hcz19_0,hcz19_1,hcz19_2,hfz19_0,hfz19_1,hfz19_2⟩ := c3_ BK386.out))
  go_ret
  exact ⟨by first|rfl|(simp [errW_none,errW_some] <;> rfl)|(simp [*,errW_none,errW_some] <;> rfl),by repeat (first|(with_reducible first|exact HB.out|apply lA|apply lN|apply lD|refine lS ?_ GE385.out|refine lS ?_ GE386.out)|exact HB.out)⟩
def gangsawref31_turned.f (a0_0 : Int) (a0_1 : Int) (a0_2 : Int) : Option (Int × Int × Int):=some (a0_1,a0_0,a0_2)
set_option maxHeartbeats 8000000 in
set_option maxRecDepth 100000 in
theorem gangsawref31_turned.calls (a0_0 : Int) (a0_1 : Int) (a0_2 : Int) (r1 : Int) (r2 : Int) (r3 : Int) (w : World) (h : gangsawref31_turned.f a0_0 a0_1 a0_2 = some (r1, r2, r3)) :
  Calls Try.prog 58 #[.agg #[.int .i64 a0_0,.int .i64 a0_1,.int .i64 a0_2]] w fun e w'=>e = .returned (.agg #[.int .i64 r1,.int .i64 r2,.int .i64 r3]) ∧ Below w.heap.size w w':=by
 have hu24:=Try.underlying24;have HB:=am (Below.refl w.heap.size w);have H : (some (a0_1,a0_0,a0_2)) = some (r1,r2,r3):=h;clear h;simp only [Option.some.injEq,Prod.mk.injEq] at H;obtain ⟨rfl,rfl,rfl⟩ := H
 go_enter Try.func58,Try.ntmps58
 go_wp2_with (first|((with_reducible refine gate_dst (N:=1) rfl ?_);refine be 1 24 (cs:=#[.int .i64 a0_0,.int .i64 a0_1,.int .i64 a0_2]) ?_;intro gb387 hg w2 hbox hb;have BK387:=am hbox;have GW387:=bza HB hg;have GE387:=bza HB hg;replace HB:=bsa HB hb;clear hb hbox hg)|((with_reducible refine gate_dst (N:=2) rfl ?_);refine be 2 24 (cs:=#[.int .i64 0,.int .i64 0,.int .i64 0]) ?_;intro gb388 hg w3 hbox hb;have BK388:=am hbox;have GW388:=bza HB hg;have GE388:=bza HB hg;have NB387_388:=bla BK387 hg;have NB388_387:=bga BK387 hg;replace BK387:=bba BK387 hb;replace HB:=bsa HB hb;clear hb hbox hg;have hnb4:=NB387_388.out;have hnc4:=NB388_387.out;obtain ⟨hcz5_0,hcz5_1,hcz5_2,hfz5_0,hfz5_1,hfz5_2⟩ := c3_ BK387.out;obtain ⟨hcz6_0,hcz6_1,hcz6_2,hfz6_0,hfz6_1,hfz6_2⟩ := c3_ BK388.out))
 refine bodyPost_ret (results_cell_row rfl _ _ gb388 24 #[.int .i64 a0_1,.int .i64 a0_0,.int .i64 a0_2] (0,0) _ rfl (by refine bp (cs:=#[.int .i64 a0_1,.int .i64 a0_0,.int .i64 0]) ?_ 2;refine bp (cs:=#[.int .i64 a0_1,.int .i64 0,.int .i64 0]) ?_ 1;refine bp (cs:=#[.int .i64 0,.int .i64 0,.int .i64 0]) ?_ 0;exact bq BK388.out) Try.underlying24 rfl (by kernel_rfl)) rfl ?_
 exact ⟨by first|rfl|(simp [errW_none,errW_some] <;> rfl)|(simp [*,errW_none,errW_some] <;> rfl),by repeat (first|(with_reducible first|exact HB.out|apply lA|apply lN|apply lD|refine lS ?_ GE387.out|refine lS ?_ GE388.out)|exact HB.out)⟩
end Go.Proofs.Ytbggjmdelnmilaa.PA
