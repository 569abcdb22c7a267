import Derived.Test.YtbggjmdelnmilaaPAx11
import Derived.WalkLawsBesides
namespace Go.Proofs.Ytbggjmdelnmilaa.PA
open Go.RowKit Go.Proofs.YtbggjmdelnmilaaW.PrintWords Go.Proofs.YtbggjmdelnmilaaW.PrintLast Go.Proofs.YtbggjmdelnmilaaW.PrintMore
attribute [local go_sem] max2_int min2_int max_two min_two max_three min_three max_four min_four
set_option linter.unusedVariables false
set_option linter.unusedSimpArgs false
mutual
def gangsawref31_Check.l0 : Nat → List (S39) → Int → Option (Int)
 | 0,_,_=>none
 | k + 1,x0,x3=>if x3 < (x0.length : Int) then (if 0 ≤ x3 then ((gangsawref19_Name.f k ((rd_T39 x0 x3).f0)).bind fun t349=>(if t349 = true then ((gangsawref31_optional.f k ((rd_T39 x0 x3).f3)).bind fun t351=>(if t351 = true then ((gangsawref31_optional.f k ((rd_T39 x0 x3).f4)).bind fun t353=>(if t353 = true then (gangsawref31_Check.l0 k x0 (wrap64 (x3 + 1))) else (some 4))) else (some 4))) else (some 4))) else (none)) else (gangsawref31_Check.l1 k x0 0)
def gangsawref31_Check.l1 : Nat → List (S39) → Int → Option (Int)
 | 0,_,_=>none
 | k + 1,x0,x4=>if x4 < (x0.length : Int) then (if 0 ≤ x4 then ((gangsawref31_size.f ((rd_T39 x0 x4).f1.f0) ((rd_T39 x0 x4).f1.f1) ((rd_T39 x0 x4).f1.f2)).bind fun t355=>(if t355 = true then ((gangsawref31_colour.f ((rd_T39 x0 x4).f2)).bind fun t357=>(if t357 = true then (gangsawref31_Check.l1 k x0 (wrap64 (x4 + 1))) else (some 6))) else (some 6))) else (none)) else (gangsawref31_Check.l2 k x0 1)
def gangsawref31_Check.l2 : Nat → List (S39) → Int → Option (Int)
 | 0,_,_=>none
 | k + 1,x0,x5=>if x5 < (x0.length : Int) then (if 0 ≤ (wrap64 (x5 - 1)) then (if (wrap64 (x5 - 1)) < (x0.length : Int) then (if 0 ≤ x5 then (if ((Op.bytesLess (((rd_T39 x0 (wrap64 (x5 - 1))).f0).toList) (((rd_T39 x0 x5).f0).toList)) = true) then (gangsawref31_Check.l2 k x0 (wrap64 (x5 + 1))) else (some 5)) else (none)) else (none)) else (none)) else (some 0)
end
def gangsawref31_Check.f (k : Nat) (l0 : List (S39)) : Option (Int):=if (l0.length : Int) > 256 then (some 7) else (gangsawref31_Check.l0 k l0 0)
set_option maxHeartbeats 8000000 in
set_option maxRecDepth 100000 in
theorem gangsawref31_Check.calls (k : Nat) (A0 : Option Addr) (c0 : Nat) (l0 : List (S39)) (r : Int) (w : World) (hr0 : Kd.C k39 w A0 l0.length l0) (hc0 : l0.length ≤ c0) (h : gangsawref31_Check.f k l0 = some r) :
  Calls Try.prog 21 #[.slice A0 l0.length c0] w fun e w'=>e = .returned (.int .i64 r) ∧ Below w.heap.size w w':=by
 have hu24:=Try.underlying24;have HR0:=am hr0;have HC0:=am hc0;clear hr0 hc0;have HB:=am (Below.refl w.heap.size w);have H : (if (l0.length : Int) > 256 then (some 7) else (gangsawref31_Check.l0 k l0 0)) = some r:=h;clear h;by_cases c2 : (l0.length : Int) > 256
 ·rw [if_pos c2] at H;have c2b0 : decide (256 < (l0.length : Int)) = true:=decide_eq_true c2;have c2b1 : decide (256 < l0.length) = true:=decide_eq_true (by omega);clear c2;obtain rfl:=Option.some.inj H
  go_enter Try.func21,Try.ntmps21
  go_wp2
  repeat (go_quiet (fail);try go_wp2)
  go_ret
  exact ⟨by first|rfl|(simp [errW_none,errW_some] <;> rfl)|(simp [*,errW_none,errW_some] <;> rfl),by repeat (first|(with_reducible first|exact HB.out|apply lA|apply lN|apply lD)|exact HB.out)⟩
 ·rw [if_neg c2] at H;have c2b0 : decide (256 < (l0.length : Int)) = false:=decide_eq_false c2;have c2b1 : decide (256 < l0.length) = false:=decide_eq_false (by omega);clear c2;have H':=am H;clear H
  go_enter Try.func21,Try.ntmps21
  go_wp2
  repeat (go_quiet (fail);try go_wp2)
  go_loopg [3] k (fun kq v3 w'=>∃ (x3_1 : Int),v3 = .int .i64 x3_1 ∧ Aside0 (gangsawref31_Check.l0 kq l0 x3_1 = some r) ∧ Aside0 (kq ≤ k) ∧ Aside0 (Below w.heap.size w w'))
  case atStart=>exact ⟨(0),(by first|rfl|(simp;done)|(simp [*];done)),H',⟨Nat.le_refl _⟩,⟨by repeat (first|(with_reducible first|exact HB.out|apply lA|apply lN|apply lD)|exact HB.out)⟩⟩
  case round =>
   clear H'
   try clear c2
   try clear c2b0
   try clear c2b1
   try clear p2
   obtain ⟨x3_1,rfl,HA,HK1,HB⟩ := hrel
   cases gk with
   | zero=>exact absurd HA.out (by simp [gangsawref31_Check.l0])
   | succ k1 =>
    have H:=HA.out;clear HA;simp only [gangsawref31_Check.l0] at H;by_cases c3 : x3_1 < (l0.length : Int)
    ·rw [if_pos c3] at H;have c3b0 : decide (x3_1 < (l0.length : Int)) = true:=decide_eq_true c3;clear c3;by_cases c4 : 0 ≤ x3_1
     ·rw [if_pos c4] at H;have c4b0 : decide (0 ≤ x3_1) = true:=decide_eq_true c4;clear c4;replace H:=Option.bind_eq_some_iff.mp H;obtain ⟨t349,A50,H⟩ := H;replace H : (if t349 = true then ((gangsawref31_optional.f k1 ((rd_T39 l0 x3_1).f3)).bind fun t351=>(if t351 = true then ((gangsawref31_optional.f k1 ((rd_T39 l0 x3_1).f4)).bind fun t353=>(if t353 = true then (gangsawref31_Check.l0 k1 l0 (wrap64 (x3_1 + 1))) else (some 4))) else (some 4))) else (some 4)) = some r:=H;have A5:=am A50;clear A50;by_cases c6 : t349 = true
      ·subst c6
       have H1 : ((gangsawref31_optional.f k1 ((rd_T39 l0 x3_1).f3)).bind fun t351=>(if t351 = true then ((gangsawref31_optional.f k1 ((rd_T39 l0 x3_1).f4)).bind fun t353=>(if t353 = true then (gangsawref31_Check.l0 k1 l0 (wrap64 (x3_1 + 1))) else (some 4))) else (some 4))) = some r:=by rw [if_pos rfl] at H;exact H
       clear H;have H:=H1;clear H1;replace H:=Option.bind_eq_some_iff.mp H;obtain ⟨t351,A70,H⟩ := H;replace H : (if t351 = true then ((gangsawref31_optional.f k1 ((rd_T39 l0 x3_1).f4)).bind fun t353=>(if t353 = true then (gangsawref31_Check.l0 k1 l0 (wrap64 (x3_1 + 1))) else (some 4))) else (some 4)) = some r:=H;have A7:=am A70;clear A70;by_cases c8 : t351 = true
       ·subst c8
        have H1 : ((gangsawref31_optional.f k1 ((rd_T39 l0 x3_1).f4)).bind fun t353=>(if t353 = true then (gangsawref31_Check.l0 k1 l0 (wrap64 (x3_1 + 1))) else (some 4))) = some r:=by rw [if_pos rfl] at H;exact H
        clear H;have H:=H1;clear H1;replace H:=Option.bind_eq_some_iff.mp H;obtain ⟨t353,A90,H⟩ := H;replace H : (if t353 = true then (gangsawref31_Check.l0 k1 l0 (wrap64 (x3_1 + 1))) else (some 4)) = some r:=H;have A9:=am A90;clear A90;by_cases c10 : t353 = true
        ·subst c10
         have H1 : (gangsawref31_Check.l0 k1 l0 (wrap64 (x3_1 + 1))) = some r:=by rw [if_pos rfl] at H;exact H
         clear H;have H:=H1;clear H1;have H':=am H;clear H;have p348 : 0 ≤ (x3_1 : Int):=dt;have q348 : x3_1 < (l0.length : Int):=dt;obtain ⟨ad348,e348,hx348_0,hx348_1,hx348_2,hx348_3,hx348_4,hx348_5,hx348_6⟩ := at_T39 HR0.out x3_1 p348 q348
         cases e348
         replace hx348_0:=hc HB hx348_0;replace hx348_1:=hc HB hx348_1;replace hx348_2:=hc HB hx348_2;replace hx348_3:=hc HB hx348_3;replace hx348_4:=hc HB hx348_4;replace hx348_5:=hc HB hx348_5;replace hx348_6:=hc HB hx348_6;replace p348:=eq_true p348;replace q348:=eq_true q348
         go_wp2_with (first|(go_at_call 48;(with_reducible refine (gangsawref19_Name.calls k1 ((rd_T39 l0 x3_1).f0) true _ A5.out).mono ?_);rintro e w' ⟨rfl,⟨nd,rfl⟩⟩;(try first|exact ⟨rfl,_,World.drewN_drewN _ _ _⟩|exact ⟨rfl,_,Eq.trans (World.drewN_drewN _ _ _) (congrArg (World.drewN _) (Nat.add_assoc _ _ _))⟩);have p350 : 0 ≤ (x3_1 : Int):=dt;have q350 : x3_1 < (l0.length : Int):=dt;obtain ⟨ad350,e350,hx350_0,hx350_1,hx350_2,hx350_3,hx350_4,hx350_5,hx350_6⟩ := at_T39 HR0.out x3_1 p350 q350;obtain rfl : ad348 = ad350:=(by injection e350);replace hx350_0:=hc HB hx350_0;replace hx350_1:=hc HB hx350_1;replace hx350_2:=hc HB hx350_2;replace hx350_3:=hc HB hx350_3;replace hx350_4:=hc HB hx350_4;replace hx350_5:=hc HB hx350_5;replace hx350_6:=hc HB hx350_6;replace p350:=eq_true p350;replace q350:=eq_true q350)|(go_at_call 49;(with_reducible refine (gangsawref31_optional.calls k1 ((rd_T39 l0 x3_1).f3) true _ A7.out).mono ?_);rintro e w' ⟨rfl,⟨nd,rfl⟩⟩;(try first|exact ⟨rfl,_,World.drewN_drewN _ _ _⟩|exact ⟨rfl,_,Eq.trans (World.drewN_drewN _ _ _) (congrArg (World.drewN _) (Nat.add_assoc _ _ _))⟩);have p352 : 0 ≤ (x3_1 : Int):=dt;have q352 : x3_1 < (l0.length : Int):=dt;obtain ⟨ad352,e352,hx352_0,hx352_1,hx352_2,hx352_3,hx352_4,hx352_5,hx352_6⟩ := at_T39 HR0.out x3_1 p352 q352;obtain rfl : ad348 = ad352:=(by injection e352);replace hx352_0:=hc HB hx352_0;replace hx352_1:=hc HB hx352_1;replace hx352_2:=hc HB hx352_2;replace hx352_3:=hc HB hx352_3;replace hx352_4:=hc HB hx352_4;replace hx352_5:=hc HB hx352_5;replace hx352_6:=hc HB hx352_6;replace p352:=eq_true p352;replace q352:=eq_true q352)|(go_at_call 49;(with_reducible refine (gangsawref31_optional.calls k1 ((rd_T39 l0 x3_1).f4) true _ A9.out).mono ?_);rintro e w' ⟨rfl,⟨nd,rfl⟩⟩;(try first|exact ⟨rfl,_,World.drewN_drewN _ _ _⟩|exact ⟨rfl,_,Eq.trans (World.drewN_drewN _ _ _) (congrArg (World.drewN _) (Nat.add_assoc _ _ _))⟩)))
         repeat (go_quiet (first|(go_at_call 48;(with_reducible refine (gangsawref19_Name.calls k1 ((rd_T39 l0 x3_1).f0) true _ A5.out).mono ?_);rintro e w' ⟨rfl,⟨nd,rfl⟩⟩;(try first|exact ⟨rfl,_,World.drewN_drewN _ _ _⟩|exact ⟨rfl,_,Eq.trans (World.drewN_drewN _ _ _) (congrArg (World.drewN _) (Nat.add_assoc _ _ _))⟩);have p350 : 0 ≤ (x3_1 : Int):=dt;have q350 : x3_1 < (l0.length : Int):=dt;obtain ⟨ad350,e350,hx350_0,hx350_1,hx350_2,hx350_3,hx350_4,hx350_5,hx350_6⟩ := at_T39 HR0.out x3_1 p350 q350;obtain rfl : ad348 = ad350:=(by injection e350);replace hx350_0:=hc HB hx350_0;replace hx350_1:=hc HB hx350_1;replace hx350_2:=hc HB hx350_2;replace hx350_3:=hc HB hx350_3;replace hx350_4:=hc HB hx350_4;replace hx350_5:=hc HB hx350_5;replace hx350_6:=hc HB hx350_6;replace p350:=eq_true p350;replace q350:=eq_true q350)|(go_at_call 49;(with_reducible refine (gangsawref31_optional.calls k1 ((rd_T39 l0 x3_1).f3) true _ A7.out).mono ?_);rintro e w' ⟨rfl,⟨nd,rfl⟩⟩;(try first|exact ⟨rfl,_,World.drewN_drewN _ _ _⟩|exact ⟨rfl,_,Eq.trans (World.drewN_drewN _ _ _) (congrArg (World.drewN _) (Nat.add_assoc _ _ _))⟩);have p352 : 0 ≤ (x3_1 : Int):=dt;have q352 : x3_1 < (l0.length : Int):=dt;obtain ⟨ad352,e352,hx352_0,hx352_1,hx352_2,hx352_3,hx352_4,hx352_5,hx352_6⟩ := at_T39 HR0.out x3_1 p352 q352;obtain rfl : ad348 = ad352:=(by injection e352);replace hx352_0:=hc HB hx352_0;replace hx352_1:=hc HB hx352_1;replace hx352_2:=hc HB hx352_2;replace hx352_3:=hc HB hx352_3;replace hx352_4:=hc HB hx352_4;replace hx352_5:=hc HB hx352_5;replace hx352_6:=hc HB hx352_6;replace p352:=eq_true p352;replace q352:=eq_true q352)|(go_at_call 49;(with_reducible refine (gangsawref31_optional.calls k1 ((rd_T39 l0 x3_1).f4) true _ A9.out).mono ?_);rintro e w' ⟨rfl,⟨nd,rfl⟩⟩;(try first|exact ⟨rfl,_,World.drewN_drewN _ _ _⟩|exact ⟨rfl,_,Eq.trans (World.drewN_drewN _ _ _) (congrArg (World.drewN _) (Nat.add_assoc _ _ _))⟩)));try go_wp2_with (first|(go_at_call 48;(with_reducible refine (gangsawref19_Name.calls k1 ((rd_T39 l0 x3_1).f0) true _ A5.out).mono ?_);rintro e w' ⟨rfl,⟨nd,rfl⟩⟩;(try first|exact ⟨rfl,_,World.drewN_drewN _ _ _⟩|exact ⟨rfl,_,Eq.trans (World.drewN_drewN _ _ _) (congrArg (World.drewN _) (Nat.add_assoc _ _ _))⟩);have p350 : 0 ≤ (x3_1 : Int):=dt;have q350 : x3_1 < (l0.length : Int):=dt;obtain ⟨ad350,e350,hx350_0,hx350_1,hx350_2,hx350_3,hx350_4,hx350_5,hx350_6⟩ := at_T39 HR0.out x3_1 p350 q350;obtain rfl : ad348 = ad350:=(by injection e350);replace hx350_0:=hc HB hx350_0;replace hx350_1:=hc HB hx350_1;replace hx350_2:=hc HB hx350_2;replace hx350_3:=hc HB hx350_3;replace hx350_4:=hc HB hx350_4;replace hx350_5:=hc HB hx350_5;replace hx350_6:=hc HB hx350_6;replace p350:=eq_true p350;replace q350:=eq_true q350)|(go_at_call 49;(with_reducible refine (gangsawref31_optional.calls k1 ((rd_T39 l0 x3_1).f3) true _ A7.out).mono ?_);rintro e w' ⟨rfl,⟨nd,rfl⟩⟩;(try first|exact ⟨rfl,_,World.drewN_drewN _ _ _⟩|exact ⟨rfl,_,Eq.trans (World.drewN_drewN _ _ _) (congrArg (World.drewN _) (Nat.add_assoc _ _ _))⟩);have p352 : 0 ≤ (x3_1 : Int):=dt;have q352 : x3_1 < (l0.length : Int):=dt;obtain ⟨ad352,e352,hx352_0,hx352_1,hx352_2,hx352_3,hx352_4,hx352_5,hx352_6⟩ := at_T39 HR0.out x3_1 p352 q352;obtain rfl : ad348 = ad352:=(by injection e352);replace hx352_0:=hc HB hx352_0;replace hx352_1:=hc HB hx352_1;replace hx352_2:=hc HB hx352_2;replace hx352_3:=hc HB hx352_3;replace hx352_4:=hc HB hx352_4;replace hx352_5:=hc HB hx352_5;replace hx352_6:=hc HB hx352_6;replace p352:=eq_true p352;replace q352:=eq_true q352)|(go_at_call 49;(with_reducible refine (gangsawref31_optional.calls k1 ((rd_T39 l0 x3_1).f4) true _ A9.out).mono ?_);rintro e w' ⟨rfl,⟨nd,rfl⟩⟩;(try first|exact ⟨rfl,_,World.drewN_drewN _ _ _⟩|exact ⟨rfl,_,Eq.trans (World.drewN_drewN _ _ _) (congrArg (World.drewN _) (Nat.add_assoc _ _ _))⟩))))
         go_roundg k1
         case measure=>have:=HK1.out;omega
         case rel=>exact ⟨(wrap64 (x3_1 + 1)),(by first|rfl|(simp;done)|(simp [*];done)),H',⟨by have:=HK1.out;omega⟩,⟨by repeat (first|(with_reducible first|exact HB.out|apply lA|apply lN|apply lD)|exact HB.out)⟩⟩
        ·replace c10:=Bool.eq_false_iff.mpr c10;subst c10
         have H1 : (some 4) = some r:=by rw [if_neg (show ¬ (false = true) by decide)] at H;exact H
         clear H;have H:=H1;clear H1;obtain rfl:=Option.some.inj H;have p348 : 0 ≤ (x3_1 : Int):=dt;have q348 : x3_1 < (l0.length : Int):=dt;obtain ⟨ad348,e348,hx348_0,hx348_1,hx348_2,hx348_3,hx348_4,hx348_5,hx348_6⟩ := at_T39 HR0.out x3_1 p348 q348
         cases e348
         replace hx348_0:=hc HB hx348_0;replace hx348_1:=hc HB hx348_1;replace hx348_2:=hc HB hx348_2;replace hx348_3:=hc HB hx348_3;replace hx348_4:=hc HB hx348_4;replace hx348_5:=hc HB hx348_5;replace hx348_6:=hc HB hx348_6;replace p348:=eq_true p348;replace q348:=eq_true q348
         go_wp2_with (first|(go_at_call 48;(with_reducible refine (gangsawref19_Name.calls k1 ((rd_T39 l0 x3_1).f0) true _ A5.out).mono ?_);rintro e w' ⟨rfl,⟨nd,rfl⟩⟩;(try first|exact ⟨rfl,_,World.drewN_drewN _ _ _⟩|exact ⟨rfl,_,Eq.trans (World.drewN_drewN _ _ _) (congrArg (World.drewN _) (Nat.add_assoc _ _ _))⟩);have p350 : 0 ≤ (x3_1 : Int):=dt;have q350 : x3_1 < (l0.length : Int):=dt;obtain ⟨ad350,e350,hx350_0,hx350_1,hx350_2,hx350_3,hx350_4,hx350_5,hx350_6⟩ := at_T39 HR0.out x3_1 p350 q350;obtain rfl : ad348 = ad350:=(by injection e350);replace hx350_0:=hc HB hx350_0;replace hx350_1:=hc HB hx350_1;replace hx350_2:=hc HB hx350_2;replace hx350_3:=hc HB hx350_3;replace hx350_4:=hc HB hx350_4;replace hx350_5:=hc HB hx350_5;replace hx350_6:=hc HB hx350_6;replace p350:=eq_true p350;replace q350:=eq_true q350)|(go_at_call 49;(with_reducible refine (gangsawref31_optional.calls k1 ((rd_T39 l0 x3_1).f3) true _ A7.out).mono ?_);rintro e w' ⟨rfl,⟨nd,rfl⟩⟩;(try first|exact ⟨rfl,_,World.drewN_drewN _ _ _⟩|exact ⟨rfl,_,Eq.trans (World.drewN_drewN _ _ _) (congrArg (World.drewN _) (Nat.add_assoc _ _ _))⟩);have p352 : 0 ≤ (x3_1 : Int):=dt;have q352 : x3_1 < (l0.length : Int):=dt;obtain ⟨ad352,e352,hx352_0,hx352_1,hx352_2,hx352_3,hx352_4,hx352_5,hx352_6⟩ := at_T39 HR0.out x3_1 p352 q352;obtain rfl : ad348 = ad352:=(by injection e352);replace hx352_0:=hc HB hx352_0;replace hx352_1:=hc HB hx352_1;replace hx352_2:=hc HB hx352_2;replace hx352_3:=hc HB hx352_3;replace hx352_4:=hc HB hx352_4;replace hx352_5:=hc HB hx352_5;replace hx352_6:=hc HB hx352_6;replace p352:=eq_true p352;replace q352:=eq_true q352)|(go_at_call 49;(with_reducible refine (gangsawref31_optional.calls k1 ((rd_T39 l0 x3_1).f4) false _ A9.out).mono ?_);rintro e w' ⟨rfl,⟨nd,rfl⟩⟩;(try first|exact ⟨rfl,_,World.drewN_drewN _ _ _⟩|exact ⟨rfl,_,Eq.trans (World.drewN_drewN _ _ _) (congrArg (World.drewN _) (Nat.add_assoc _ _ _))⟩)))
         repeat (go_quiet (first|(go_at_call 48;(with_reducible refine (gangsawref19_Name.calls k1 ((rd_T39 l0 x3_1).f0) true _ A5.out).mono ?_);rintro e w' ⟨rfl,⟨nd,rfl⟩⟩;(try first|exact ⟨rfl,_,World.drewN_drewN _ _ _⟩|exact ⟨rfl,_,Eq.trans (World.drewN_drewN _ _ _) (congrArg (World.drewN _) (Nat.add_assoc _ _ _))⟩);have p350 : 0 ≤ (x3_1 : Int):=dt;have q350 : x3_1 < (l0.length : Int):=dt;obtain ⟨ad350,e350,hx350_0,hx350_1,hx350_2,hx350_3,hx350_4,hx350_5,hx350_6⟩ := at_T39 HR0.out x3_1 p350 q350;obtain rfl : ad348 = ad350:=(by injection e350);replace hx350_0:=hc HB hx350_0;replace hx350_1:=hc HB hx350_1;replace hx350_2:=hc HB hx350_2;replace hx350_3:=hc HB hx350_3;replace hx350_4:=hc HB hx350_4;replace hx350_5:=hc HB hx350_5;replace hx350_6:=hc HB hx350_6;replace p350:=eq_true p350;replace q350:=eq_true q350)|(go_at_call 49;(with_reducible refine (gangsawref31_optional.calls k1 ((rd_T39 l0 x3_1).f3) true _ A7.out).mono ?_);rintro e w' ⟨rfl,⟨nd,rfl⟩⟩;(try first|exact ⟨rfl,_,World.drewN_drewN _ _ _⟩|exact ⟨rfl,_,Eq.trans (World.drewN_drewN _ _ _) (congrArg (World.drewN _) (Nat.add_assoc _ _ _))⟩);have p352 : 0 ≤ (x3_1 : Int):=dt;have q352 : x3_1 < (l0.length : Int):=dt;obtain ⟨ad352,e352,hx352_0,hx352_1,hx352_2,hx352_3,hx352_4,hx352_5,hx352_6⟩ := at_T39 HR0.out x3_1 p352 q352;obtain rfl : ad348 = ad352:=(by injection e352);replace hx352_0:=hc HB hx352_0;replace hx352_1:=hc HB hx352_1;replace hx352_2:=hc HB hx352_2;replace hx352_3:=hc HB hx352_3;replace hx352_4:=hc HB hx352_4;replace hx352_5:=hc HB hx352_5;replace hx352_6:=hc HB hx352_6;replace p352:=eq_true p352;replace q352:=eq_true q352)|(go_at_call 49;(with_reducible refine (gangsawref31_optional.calls k1 ((rd_T39 l0 x3_1).f4) false _ A9.out).mono ?_);rintro e w' ⟨rfl,⟨nd,rfl⟩⟩;(try first|exact ⟨rfl,_,World.drewN_drewN _ _ _⟩|exact ⟨rfl,_,Eq.trans (World.drewN_drewN _ _ _) (congrArg (World.drewN _) (Nat.add_assoc _ _ _))⟩)));try go_wp2_with (first|(go_at_call 48;(with_reducible refine (gangsawref19_Name.calls k1 ((rd_T39 l0 x3_1).f0) true _ A5.out).mono ?_);rintro e w' ⟨rfl,⟨nd,rfl⟩⟩;(try first|exact ⟨rfl,_,World.drewN_drewN _ _ _⟩|exact ⟨rfl,_,Eq.trans (World.drewN_drewN _ _ _) (congrArg (World.drewN _) (Nat.add_assoc _ _ _))⟩);have p350 : 0 ≤ (x3_1 : Int):=dt;have q350 : x3_1 < (l0.length : Int):=dt;obtain ⟨ad350,e350,hx350_0,hx350_1,hx350_2,hx350_3,hx350_4,hx350_5,hx350_6⟩ := at_T39 HR0.out x3_1 p350 q350;obtain rfl : ad348 = ad350:=(by injection e350);replace hx350_0:=hc HB hx350_0;replace hx350_1:=hc HB hx350_1;replace hx350_2:=hc HB hx350_2;replace hx350_3:=hc HB hx350_3;replace hx350_4:=hc HB hx350_4;replace hx350_5:=hc HB hx350_5;replace hx350_6:=hc HB hx350_6;replace p350:=eq_true p350;replace q350:=eq_true q350)|(go_at_call 49;(with_reducible refine (gangsawref31_optional.calls k1 ((rd_T39 l0 x3_1).f3) true _ A7.out).mono ?_);rintro e w' ⟨rfl,⟨nd,rfl⟩⟩;(try first|exact ⟨rfl,_,World.drewN_drewN _ _ _⟩|exact ⟨rfl,_,Eq.trans (World.drewN_drewN _ _ _) (congrArg (World.drewN _) (Nat.add_assoc _ _ _))⟩);have p352 : 0 ≤ (x3_1 : Int):=dt;have q352 : x3_1 < (l0.length : Int):=dt;obtain ⟨ad352,e352,hx352_0,hx352_1,hx352_2,hx352_3,hx352_4,hx352_5,hx352_6⟩ := at_T39 HR0.out x3_1 p352 q352;obtain rfl : ad348 = ad352:=(by injection e352);replace hx352_0:=hc HB hx352_0;replace hx352_1:=hc HB hx352_1;replace hx352_2:=hc HB hx352_2;replace hx352_3:=hc HB hx352_3;replace hx352_4:=hc HB hx352_4;replace hx352_5:=hc HB hx352_5;replace hx352_6:=hc HB hx352_6;replace p352:=eq_true p352;replace q352:=eq_true q352)|(go_at_call 49;(with_reducible refine (gangsawref31_optional.calls k1 ((rd_T39 l0 x3_1).f4) false _ A9.out).mono ?_);rintro e w' ⟨rfl,⟨nd,rfl⟩⟩;(try first|exact ⟨rfl,_,World.drewN_drewN _ _ _⟩|exact ⟨rfl,_,Eq.trans (World.drewN_drewN _ _ _) (congrArg (World.drewN _) (Nat.add_assoc _ _ _))⟩))))
         go_ret
         exact ⟨by first|rfl|(simp [errW_none,errW_some] <;> rfl)|(simp [*,errW_none,errW_some] <;> rfl),by repeat (first|(with_reducible first|exact HB.out|apply lA|apply lN|apply lD)|exact HB.out)⟩
       ·replace c8:=Bool.eq_false_iff.mpr c8;subst c8
        have H1 : (some 4) = some r:=by rw [if_neg (show ¬ (false = true) by decide)] at H;exact H
        clear H;have H:=H1;clear H1;obtain rfl:=Option.some.inj H;have p348 : 0 ≤ (x3_1 : Int):=dt;have q348 : x3_1 < (l0.length : Int):=dt;obtain ⟨ad348,e348,hx348_0,hx348_1,hx348_2,hx348_3,hx348_4,hx348_5,hx348_6⟩ := at_T39 HR0.out x3_1 p348 q348
        cases e348
        replace hx348_0:=hc HB hx348_0;replace hx348_1:=hc HB hx348_1;replace hx348_2:=hc HB hx348_2;replace hx348_3:=hc HB hx348_3;replace hx348_4:=hc HB hx348_4;replace hx348_5:=hc HB hx348_5;replace hx348_6:=hc HB hx348_6;replace p348:=eq_true p348;replace q348:=eq_true q348
        go_wp2_with (first|(go_at_call 48;(with_reducible refine (gangsawref19_Name.calls k1 ((rd_T39 l0 x3_1).f0) true _ A5.out).mono ?_);rintro e w' ⟨rfl,⟨nd,rfl⟩⟩;(try first|exact ⟨rfl,_,World.drewN_drewN _ _ _⟩|exact ⟨rfl,_,Eq.trans (World.drewN_drewN _ _ _) (congrArg (World.drewN _) (Nat.add_assoc _ _ _))⟩);have p350 : 0 ≤ (x3_1 : Int):=dt;have q350 : x3_1 < (l0.length : Int):=dt;obtain ⟨ad350,e350,hx350_0,hx350_1,hx350_2,hx350_3,hx350_4,hx350_5,hx350_6⟩ := at_T39 HR0.out x3_1 p350 q350;obtain rfl : ad348 = ad350:=(by injection e350);replace hx350_0:=hc HB hx350_0;replace hx350_1:=hc HB hx350_1;replace hx350_2:=hc HB hx350_2;replace hx350_3:=hc HB hx350_3;replace hx350_4:=hc HB hx350_4;replace hx350_5:=hc HB hx350_5;replace hx350_6:=hc HB hx350_6;replace p350:=eq_true p350;replace q350:=eq_true q350)|(go_at_call 49;(with_reducible refine (gangsawref31_optional.calls k1 ((rd_T39 l0 x3_1).f3) false _ A7.out).mono ?_);rintro e w' ⟨rfl,⟨nd,rfl⟩⟩;(try first|exact ⟨rfl,_,World.drewN_drewN _ _ _⟩|exact ⟨rfl,_,Eq.trans (World.drewN_drewN _ _ _) (congrArg (World.drewN _) (Nat.add_assoc _ _ _))⟩)))
        repeat (go_quiet (first|(go_at_call 48;(with_reducible refine (gangsawref19_Name.calls k1 ((rd_T39 l0 x3_1).f0) true _ A5.out).mono ?_);rintro e w' ⟨rfl,⟨nd,rfl⟩⟩;(try first|exact ⟨rfl,_,World.drewN_drewN _ _ _⟩|exact ⟨rfl,_,Eq.trans (World.drewN_drewN _ _ _) (congrArg (World.drewN _) (Nat.add_assoc _ _ _))⟩);have p350 : 0 ≤ (x3_1 : Int):=dt;have q350 : x3_1 < (l0.length : Int):=dt;obtain ⟨ad350,e350,hx350_0,hx350_1,hx350_2,hx350_3,hx350_4,hx350_5,hx350_6⟩ := at_T39 HR0.out x3_1 p350 q350;obtain rfl : ad348 = ad350:=(by injection e350);replace hx350_0:=hc HB hx350_0;replace hx350_1:=hc HB hx350_1;replace hx350_2:=hc HB hx350_2;replace hx350_3:=hc HB hx350_3;replace hx350_4:=hc HB hx350_4;replace hx350_5:=hc HB hx350_5;replace hx350_6:=hc HB hx350_6;replace p350:=eq_true p350;replace q350:=eq_true q350)|(go_at_call 49;(with_reducible refine (gangsawref31_optional.calls k1 ((rd_T39 l0 x3_1).f3) false _ A7.out).mono ?_);rintro e w' ⟨rfl,⟨nd,rfl⟩⟩;(try first|exact ⟨rfl,_,World.drewN_drewN _ _ _⟩|exact ⟨rfl,_,Eq.trans (World.drewN_drewN _ _ _) (congrArg (World.drewN _) (Nat.add_assoc _ _ _))⟩)));try go_wp2_with (first|(go_at_call 48;(with_reducible refine (gangsawref19_Name.calls k1 ((rd_T39 l0 x3_1).f0) true _ A5.out).mono ?_);rintro e w' ⟨rfl,⟨nd,rfl⟩⟩;(try first|exact ⟨rfl,_,World.drewN_drewN _ _ _⟩|exact ⟨rfl,_,Eq.trans (World.drewN_drewN _ _ _) (congrArg (World.drewN _) (Nat.add_assoc _ _ _))⟩);have p350 : 0 ≤ (x3_1 : Int):=dt;have q350 : x3_1 < (l0.length : Int):=dt;obtain ⟨ad350,e350,hx350_0,hx350_1,hx350_2,hx350_3,hx350_4,hx350_5,hx350_6⟩ := at_T39 HR0.out x3_1 p350 q350;obtain rfl : ad348 = ad350:=(by injection e350);replace hx350_0:=hc HB hx350_0;replace hx350_1:=hc HB hx350_1;replace hx350_2:=hc HB hx350_2;replace hx350_3:=hc HB hx350_3;replace hx350_4:=hc HB hx350_4;replace hx350_5:=hc HB hx350_5;replace hx350_6:=hc HB hx350_6;replace p350:=eq_true p350;replace q350:=eq_true q350)|(go_at_call 49;(with_reducible refine (gangsawref31_optional.calls k1 ((rd_T39 l0 x3_1).f3) false _ A7.out).mono ?_);rintro e w' ⟨rfl,⟨nd,rfl⟩⟩;(try first|exact ⟨rfl,_,World.drewN_drewN _ _ _⟩|exact ⟨rfl,_,Eq.trans (World.drewN_drewN _ _ _) (congrArg (World.drewN _) (Nat.add_assoc _ _ _))⟩))))
        go_ret
        exact ⟨by first|rfl|(simp [errW_none,errW_some] <;> rfl)|(simp [*,errW_none,errW_some] <;> rfl),by repeat (first|(with_reducible first|exact HB.out|apply lA|apply lN|apply lD)|exact HB.out)⟩
      ·replace c6:=Bool.eq_false_iff.mpr c6;subst c6
       have H1 : (some 4) = some r:=by rw [if_neg (show ¬ (false = true) by decide)] at H;exact H
       clear H;have H:=H1;clear H1;obtain rfl:=Option.some.inj H;have p348 : 0 ≤ (x3_1 : Int):=dt;have q348 : x3_1 < (l0.length : Int):=dt;obtain ⟨ad348,e348,hx348_0,hx348_1,hx348_2,hx348_3,hx348_4,hx348_5,hx348_6⟩ := at_T39 HR0.out x3_1 p348 q348
       cases e348
       replace hx348_0:=hc HB hx348_0;replace hx348_1:=hc HB hx348_1;replace hx348_2:=hc HB hx348_2;replace hx348_3:=hc HB hx348_3;replace hx348_4:=hc HB hx348_4;replace hx348_5:=hc HB hx348_5;replace hx348_6:=hc HB hx348_6;replace p348:=eq_true p348;replace q348:=eq_true q348
       go_wp2_with (first|(go_at_call 48;(with_reducible refine (gangsawref19_Name.calls k1 ((rd_T39 l0 x3_1).f0) false _ A5.out).mono ?_);rintro e w' ⟨rfl,⟨nd,rfl⟩⟩;(try first|exact ⟨rfl,_,World.drewN_drewN _ _ _⟩|exact ⟨rfl,_,Eq.trans (World.drewN_drewN _ _ _) (congrArg (World.drewN _) (Nat.add_assoc _ _ _))⟩)))
       repeat (go_quiet (first|(go_at_call 48;(with_reducible refine (gangsawref19_Name.calls k1 ((rd_T39 l0 x3_1).f0) false _ A5.out).mono ?_);rintro e w' ⟨rfl,⟨nd,rfl⟩⟩;(try first|exact ⟨rfl,_,World.drewN_drewN _ _ _⟩|exact ⟨rfl,_,Eq.trans (World.drewN_drewN _ _ _) (congrArg (World.drewN _) (Nat.add_assoc _ _ _))⟩)));try go_wp2_with (first|(go_at_call 48;(with_reducible refine (gangsawref19_Name.calls k1 ((rd_T39 l0 x3_1).f0) false _ A5.out).mono ?_);rintro e w' ⟨rfl,⟨nd,rfl⟩⟩;(try first|exact ⟨rfl,_,World.drewN_drewN _ _ _⟩|exact ⟨rfl,_,Eq.trans (World.drewN_drewN _ _ _) (congrArg (World.drewN _) (Nat.add_assoc _ _ _))⟩))))
       go_ret
       exact ⟨by first|rfl|(simp [errW_none,errW_some] <;> rfl)|(simp [*,errW_none,errW_some] <;> rfl),by repeat (first|(with_reducible first|exact HB.out|apply lA|apply lN|apply lD)|exact HB.out)⟩
     (rw [if_neg c4] at H;exact absurd H (by simp))
    ·rw [if_neg c3] at H;have c3b0 : decide (x3_1 < (l0.length : Int)) = false:=decide_eq_false c3;clear c3;have H':=am H;clear H
     go_wp2
     repeat (go_quiet (fail);try go_wp2)
     go_loopg [4] k1 (fun kq v4 w'=>∃ (x4_2 : Int),v4 = .int .i64 x4_2 ∧ Aside0 (gangsawref31_Check.l1 kq l0 x4_2 = some r) ∧ Aside0 (kq ≤ k1) ∧ Aside0 (Below w.heap.size w w'))
     case atStart=>exact ⟨(0),(by first|rfl|(simp;done)|(simp [*];done)),H',⟨Nat.le_refl _⟩,⟨by repeat (first|(with_reducible first|exact HB.out|apply lA|apply lN|apply lD)|exact HB.out)⟩⟩
     case round =>
      clear H'
      try clear c1
      try clear c2
      try clear c2b0
      try clear c2b1
      try clear p2
      try clear c3
      try clear c3b0
      try clear p3
      try clear q3
      try clear hx3
      try clear c4
      try clear c4b0
      try clear c6
      try clear p6
      try clear c8
      try clear c10
      try clear hx348_0
      try clear hx348_1
      try clear hx348_2
      try clear hx348_3
      try clear hx348_4
      try clear hx348_5
      try clear hx348_6
      try clear hx350_0
      try clear hx350_1
      try clear hx350_2
      try clear hx350_3
      try clear hx350_4
      try clear hx350_5
      try clear hx350_6
      try clear hx352_0
      try clear hx352_1
      try clear hx352_2
      try clear hx352_3
      try clear hx352_4
      try clear hx352_5
      try clear hx352_6
      try clear p2
      try clear p348
      try clear p350
      try clear p352
      try clear q348
      try clear q350
      try clear q352
      obtain ⟨x4_2,rfl,HA,HK2,HB⟩ := hrel
      cases gk with
      | zero=>exact absurd HA.out (by simp [gangsawref31_Check.l1])
      | succ k2 =>
       have H:=HA.out;clear HA;simp only [gangsawref31_Check.l1] at H;by_cases c11 : x4_2 < (l0.length : Int)
       ·rw [if_pos c11] at H;have c11b0 : decide (x4_2 < (l0.length : Int)) = true:=decide_eq_true c11;clear c11;by_cases c12 : 0 ≤ x4_2
        ·rw [if_pos c12] at H;have c12b0 : decide (0 ≤ x4_2) = true:=decide_eq_true c12;clear c12;replace H:=Option.bind_eq_some_iff.mp H;obtain ⟨t355,A130,H⟩ := H;replace H : (if t355 = true then ((gangsawref31_colour.f ((rd_T39 l0 x4_2).f2)).bind fun t357=>(if t357 = true then (gangsawref31_Check.l1 k2 l0 (wrap64 (x4_2 + 1))) else (some 6))) else (some 6)) = some r:=H;have A13:=am A130;clear A130;by_cases c14 : t355 = true
         ·subst c14
          have H1 : ((gangsawref31_colour.f ((rd_T39 l0 x4_2).f2)).bind fun t357=>(if t357 = true then (gangsawref31_Check.l1 k2 l0 (wrap64 (x4_2 + 1))) else (some 6))) = some r:=by rw [if_pos rfl] at H;exact H
          clear H;have H:=H1;clear H1;replace H:=Option.bind_eq_some_iff.mp H;obtain ⟨t357,A150,H⟩ := H;replace H : (if t357 = true then (gangsawref31_Check.l1 k2 l0 (wrap64 (x4_2 + 1))) else (some 6)) = some r:=H;have A15:=am A150;clear A150;by_cases c16 : t357 = true
          ·subst c16
           have H1 : (gangsawref31_Check.l1 k2 l0 (wrap64 (x4_2 + 1))) = some r:=by rw [if_pos rfl] at H;exact H
           clear H;have H:=H1;clear H1;have H':=am H;clear H;have p354 : 0 ≤ (x4_2 : Int):=dt;have q354 : x4_2 < (l0.length : Int):=dt;obtain ⟨ad354,e354,hx354_0,hx354_1,hx354_2,hx354_3,hx354_4,hx354_5,hx354_6⟩ := at_T39 HR0.out x4_2 p354 q354
           cases e354
           replace hx354_0:=hc HB hx354_0;replace hx354_1:=hc HB hx354_1;replace hx354_2:=hc HB hx354_2;replace hx354_3:=hc HB hx354_3;replace hx354_4:=hc HB hx354_4;replace hx354_5:=hc HB hx354_5;replace hx354_6:=hc HB hx354_6;replace p354:=eq_true p354;replace q354:=eq_true q354
           go_wp2_with (first|(go_at_call 50;(with_reducible refine (gangsawref31_size.calls ((rd_T39 l0 x4_2).f1.f0) ((rd_T39 l0 x4_2).f1.f1) ((rd_T39 l0 x4_2).f1.f2) true _ A13.out).mono ?_);rintro e w17 ⟨rfl,hb⟩;replace HB:=bsa HB hb;(try clear hb);have p356 : 0 ≤ (x4_2 : Int):=dt;have q356 : x4_2 < (l0.length : Int):=dt;obtain ⟨ad356,e356,hx356_0,hx356_1,hx356_2,hx356_3,hx356_4,hx356_5,hx356_6⟩ := at_T39 HR0.out x4_2 p356 q356;obtain rfl : ad354 = ad356:=(by injection e356);replace hx356_0:=hc HB hx356_0;replace hx356_1:=hc HB hx356_1;replace hx356_2:=hc HB hx356_2;replace hx356_3:=hc HB hx356_3;replace hx356_4:=hc HB hx356_4;replace hx356_5:=hc HB hx356_5;replace hx356_6:=hc HB hx356_6;replace p356:=eq_true p356;replace q356:=eq_true q356)|(go_at_call 51;(with_reducible refine (gangsawref31_colour.calls ((rd_T39 l0 x4_2).f2) true _ A15.out).mono ?_);rintro e w' ⟨rfl,⟨nd,rfl⟩⟩;(try first|exact ⟨rfl,_,World.drewN_drewN _ _ _⟩|exact ⟨rfl,_,Eq.trans (World.drewN_drewN _ _ _) (congrArg (World.drewN _) (Nat.add_assoc _ _ _))⟩)))
           repeat (go_quiet (first|(go_at_call 50;(with_reducible refine (gangsawref31_size.calls ((rd_T39 l0 x4_2).f1.f0) ((rd_T39 l0 x4_2).f1.f1) ((rd_T39 l0 x4_2).f1.f2) true _ A13.out).mono ?_);rintro e w17 ⟨rfl,hb⟩;replace HB:=bsa HB hb;(try clear hb);have p356 : 0 ≤ (x4_2 : Int):=dt;have q356 : x4_2 < (l0.length : Int):=dt;obtain ⟨ad356,e356,hx356_0,hx356_1,hx356_2,hx356_3,hx356_4,hx356_5,hx356_6⟩ := at_T39 HR0.out x4_2 p356 q356;obtain rfl : ad354 = ad356:=(by injection e356);replace hx356_0:=hc HB hx356_0;replace hx356_1:=hc HB hx356_1;replace hx356_2:=hc HB hx356_2;replace hx356_3:=hc HB hx356_3;replace hx356_4:=hc HB hx356_4;replace hx356_5:=hc HB hx356_5;replace hx356_6:=hc HB hx356_6;replace p356:=eq_true p356;replace q356:=eq_true q356)|(go_at_call 51;(with_reducible refine (gangsawref31_colour.calls ((rd_T39 l0 x4_2).f2) true _ A15.out).mono ?_);rintro e w' ⟨rfl,⟨nd,rfl⟩⟩;(try first|exact ⟨rfl,_,World.drewN_drewN _ _ _⟩|exact ⟨rfl,_,Eq.trans (World.drewN_drewN _ _ _) (congrArg (World.drewN _) (Nat.add_assoc _ _ _))⟩)));try go_wp2_with (first|(go_at_call 50;(with_reducible refine (gangsawref31_size.calls ((rd_T39 l0 x4_2).f1.f0) ((rd_T39 l0 x4_2).f1.f1) ((rd_T39 l0 x4_2).f1.f2) true _ A13.out).mono ?_);rintro e w17 ⟨rfl,hb⟩;replace HB:=bsa HB hb;(try clear hb);have p356 : 0 ≤ (x4_2 : Int):=dt;have q356 : x4_2 < (l0.length : Int):=dt;obtain ⟨ad356,e356,hx356_0,hx356_1,hx356_2,hx356_3,hx356_4,hx356_5,hx356_6⟩ := at_T39 HR0.out x4_2 p356 q356;obtain rfl : ad354 = ad356:=(by injection e356);replace hx356_0:=hc HB hx356_0;replace hx356_1:=hc HB hx356_1;replace hx356_2:=hc HB hx356_2;replace hx356_3:=hc HB hx356_3;replace hx356_4:=hc HB hx356_4;replace hx356_5:=hc HB hx356_5;replace hx356_6:=hc HB hx356_6;replace p356:=eq_true p356;replace q356:=eq_true q356)|(go_at_call 51;(with_reducible refine (gangsawref31_colour.calls ((rd_T39 l0 x4_2).f2) true _ A15.out).mono ?_);rintro e w' ⟨rfl,⟨nd,rfl⟩⟩;(try first|exact ⟨rfl,_,World.drewN_drewN _ _ _⟩|exact ⟨rfl,_,Eq.trans (World.drewN_drewN _ _ _) (congrArg (World.drewN _) (Nat.add_assoc _ _ _))⟩))))
           go_roundg k2
           case measure=>have:=HK1.out;have:=HK2.out;omega
           case rel=>exact ⟨(wrap64 (x4_2 + 1)),(by first|rfl|(simp;done)|(simp [*];done)),H',⟨by have:=HK1.out;have:=HK2.out;omega⟩,⟨by repeat (first|(with_reducible first|exact HB.out|apply lA|apply lN|apply lD)|exact HB.out)⟩⟩
          ·replace c16:=Bool.eq_false_iff.mpr c16;subst c16
           have H1 : (some 6) = some r:=by rw [if_neg (show ¬ (false = true) by decide)] at H;exact H
           clear H;have H:=H1;clear H1;obtain rfl:=Option.some.inj H;have p354 : 0 ≤ (x4_2 : Int):=dt;have q354 : x4_2 < (l0.length : Int):=dt;obtain ⟨ad354,e354,hx354_0,hx354_1,hx354_2,hx354_3,hx354_4,hx354_5,hx354_6⟩ := at_T39 HR0.out x4_2 p354 q354
           cases e354
           replace hx354_0:=hc HB hx354_0;replace hx354_1:=hc HB hx354_1;replace hx354_2:=hc HB hx354_2;replace hx354_3:=hc HB hx354_3;replace hx354_4:=hc HB hx354_4;replace hx354_5:=hc HB hx354_5;replace hx354_6:=hc HB hx354_6;replace p354:=eq_true p354;replace q354:=eq_true q354
           go_wp2_with (first|(go_at_call 50;(with_reducible refine (gangsawref31_size.calls ((rd_T39 l0 x4_2).f1.f0) ((rd_T39 l0 x4_2).f1.f1) ((rd_T39 l0 x4_2).f1.f2) true _ A13.out).mono ?_);rintro e w18 ⟨rfl,hb⟩;replace HB:=bsa HB hb;(try clear hb);have p356 : 0 ≤ (x4_2 : Int):=dt;have q356 : x4_2 < (l0.length : Int):=dt;obtain ⟨ad356,e356,hx356_0,hx356_1,hx356_2,hx356_3,hx356_4,hx356_5,hx356_6⟩ := at_T39 HR0.out x4_2 p356 q356;obtain rfl : ad354 = ad356:=(by injection e356);replace hx356_0:=hc HB hx356_0;replace hx356_1:=hc HB hx356_1;replace hx356_2:=hc HB hx356_2;replace hx356_3:=hc HB hx356_3;replace hx356_4:=hc HB hx356_4;replace hx356_5:=hc HB hx356_5;replace hx356_6:=hc HB hx356_6;replace p356:=eq_true p356;replace q356:=eq_true q356)|(go_at_call 51;(with_reducible refine (gangsawref31_colour.calls ((rd_T39 l0 x4_2).f2) false _ A15.out).mono ?_);rintro e w' ⟨rfl,⟨nd,rfl⟩⟩;(try first|exact ⟨rfl,_,World.drewN_drewN _ _ _⟩|exact ⟨rfl,_,Eq.trans (World.drewN_drewN _ _ _) (congrArg (World.drewN _) (Nat.add_assoc _ _ _))⟩)))
           repeat (go_quiet (first|(go_at_call 50;(with_reducible refine (gangsawref31_size.calls ((rd_T39 l0 x4_2).f1.f0) ((rd_T39 l0 x4_2).f1.f1) ((rd_T39 l0 x4_2).f1.f2) true _ A13.out).mono ?_);rintro e w18 ⟨rfl,hb⟩;replace HB:=bsa HB hb;(try clear hb);have p356 : 0 ≤ (x4_2 : Int):=dt;have q356 : x4_2 < (l0.length : Int):=dt;obtain ⟨ad356,e356,hx356_0,hx356_1,hx356_2,hx356_3,hx356_4,hx356_5,hx356_6⟩ := at_T39 HR0.out x4_2 p356 q356;obtain rfl : ad354 = ad356:=(by injection e356);replace hx356_0:=hc HB hx356_0;replace hx356_1:=hc HB hx356_1;replace hx356_2:=hc HB hx356_2;replace hx356_3:=hc HB hx356_3;replace hx356_4:=hc HB hx356_4;replace hx356_5:=hc HB hx356_5;replace hx356_6:=hc HB hx356_6;replace p356:=eq_true p356;replace q356:=eq_true q356)|(go_at_call 51;(with_reducible refine (gangsawref31_colour.calls ((rd_T39 l0 x4_2).f2) false _ A15.out).mono ?_);rintro e w' ⟨rfl,⟨nd,rfl⟩⟩;(try first|exact ⟨rfl,_,World.drewN_drewN _ _ _⟩|exact ⟨rfl,_,Eq.trans (World.drewN_drewN _ _ _) (congrArg (World.drewN _) (Nat.add_assoc _ _ _))⟩)));try go_wp2_with (first|(go_at_call 50;(with_reducible refine (gangsawref31_size.calls ((rd_T39 l0 x4_2).f1.f0) ((rd_T39 l0 x4_2).f1.f1) ((rd_T39 l0 x4_2).f1.f2) true _ A13.out).mono ?_);rintro e w18 ⟨rfl,hb⟩;replace HB:=bsa HB hb;(try clear hb);have p356 : 0 ≤ (x4_2 : Int):=dt;have q356 : x4_2 < (l0.length : Int):=dt;obtain ⟨ad356,e356,hx356_0,hx356_1,hx356_2,hx356_3,hx356_4,hx356_5,hx356_6⟩ := at_T39 HR0.out x4_2 p356 q356;obtain rfl : ad354 = ad356:=(by injection e356);replace hx356_0:=hc HB hx356_0;replace hx356_1:=hc HB hx356_1;replace hx356_2:=hc HB hx356_2;replace hx356_3:=hc HB hx356_3;replace hx356_4:=hc HB hx356_4;replace hx356_5:=hc HB hx356_5;replace hx356_6:=hc HB hx356_6;replace p356:=eq_true p356;replace q356:=eq_true q356)|(go_at_call 51;(with_reducible refine (gangsawref31_colour.calls ((rd_T39 l0 x4_2).f2) false _ A15.out).mono ?_);rintro e w' ⟨rfl,⟨nd,rfl⟩⟩;(try first|exact ⟨rfl,_,World.drewN_drewN _ _ _⟩|exact ⟨rfl,_,Eq.trans (World.drewN_drewN _ _ _) (congrArg (World.drewN _) (Nat.add_assoc _ _ _))⟩))))
           go_ret
           exact ⟨by first|rfl|(simp [errW_none,errW_some] <;> rfl)|(simp [*,errW_none,errW_some] <;> rfl),by repeat (first|(with_reducible first|exact HB.out|apply lA|apply lN|apply lD)|exact HB.out)⟩
         ·replace c14:=Bool.eq_false_iff.mpr c14;subst c14
          have H1 : (some 6) = some r:=by rw [if_neg (show ¬ (false = true) by decide)] at H;exact H
          clear H;have H:=H1;clear H1;obtain rfl:=Option.some.inj H;have p354 : 0 ≤ (x4_2 : Int):=dt;have q354 : x4_2 < (l0.length : Int):=dt;obtain ⟨ad354,e354,hx354_0,hx354_1,hx354_2,hx354_3,hx354_4,hx354_5,hx354_6⟩ := at_T39 HR0.out x4_2 p354 q354
          cases e354
          replace hx354_0:=hc HB hx354_0;replace hx354_1:=hc HB hx354_1;replace hx354_2:=hc HB hx354_2;replace hx354_3:=hc HB hx354_3;replace hx354_4:=hc HB hx354_4;replace hx354_5:=hc HB hx354_5;replace hx354_6:=hc HB hx354_6;replace p354:=eq_true p354;replace q354:=eq_true q354
          go_wp2_with (first|(go_at_call 50;(with_reducible refine (gangsawref31_size.calls ((rd_T39 l0 x4_2).f1.f0) ((rd_T39 l0 x4_2).f1.f1) ((rd_T39 l0 x4_2).f1.f2) false _ A13.out).mono ?_);rintro e w19 ⟨rfl,hb⟩;replace HB:=bsa HB hb;(try clear hb)))
          repeat (go_quiet (first|(go_at_call 50;(with_reducible refine (gangsawref31_size.calls ((rd_T39 l0 x4_2).f1.f0) ((rd_T39 l0 x4_2).f1.f1) ((rd_T39 l0 x4_2).f1.f2) false _ A13.out).mono ?_);rintro e w19 ⟨rfl,hb⟩;replace HB:=bsa HB hb;(try clear hb)));try go_wp2_with (first|(go_at_call 50;(with_reducible refine (gangsawref31_size.calls ((rd_T39 l0 x4_2).f1.f0) ((rd_T39 l0 x4_2).f1.f1) ((rd_T39 l0 x4_2).f1.f2) false _ A13.out).mono ?_);rintro e w19 ⟨rfl,hb⟩;replace HB:=bsa HB hb;(try clear hb))))
          go_ret
          exact ⟨by first|rfl|(simp [errW_none,errW_some] <;> rfl)|(simp [*,errW_none,errW_some] <;> rfl),by repeat (first|(with_reducible first|exact HB.out|apply lA|apply lN|apply lD)|exact HB.out)⟩
        (rw [if_neg c12] at H;exact absurd H (by simp))
       ·rw [if_neg c11] at H;have c11b0 : decide (x4_2 < (l0.length : Int)) = false:=decide_eq_false c11;clear c11;have H':=am H;clear H
        go_wp2
        repeat (go_quiet (fail);try go_wp2)
        go_loopg [5] k2 (fun kq v5 w'=>∃ (x5_3 : Int),v5 = .int .i64 x5_3 ∧ Aside0 (gangsawref31_Check.l2 kq l0 x5_3 = some r) ∧ Aside0 (kq ≤ k2) ∧ Aside0 (Below w.heap.size w w'))
        case atStart=>exact ⟨(1),(by first|rfl|(simp;done)|(simp [*];done)),H',⟨Nat.le_refl _⟩,⟨by repeat (first|(with_reducible first|exact HB.out|apply lA|apply lN|apply lD)|exact HB.out)⟩⟩
        case round =>
         clear H'
         try clear c1
         try clear c2
         try clear c2b0
         try clear c2b1
         try clear p2
         try clear c3
         try clear c3b0
         try clear p3
         try clear q3
         try clear hx3
         try clear c4
         try clear c4b0
         try clear c6
         try clear p6
         try clear c8
         try clear c10
         try clear c11
         try clear c11b0
         try clear c12
         try clear c12b0
         try clear c14
         try clear c16
         try clear hx348_0
         try clear hx348_1
         try clear hx348_2
         try clear hx348_3
         try clear hx348_4
         try clear hx348_5
         try clear hx348_6
         try clear hx350_0
         try clear hx350_1
         try clear hx350_2
         try clear hx350_3
         try clear hx350_4
         try clear hx350_5
         try clear hx350_6
         try clear hx352_0
         try clear hx352_1
         try clear hx352_2
         try clear hx352_3
         try clear hx352_4
         try clear hx352_5
         try clear hx352_6
         try clear hx354_0
         try clear hx354_1
         try clear hx354_2
         try clear hx354_3
         try clear hx354_4
         try clear hx354_5
         try clear hx354_6
         try clear hx356_0
         try clear hx356_1
         try clear hx356_2
         try clear hx356_3
         try clear hx356_4
         try clear hx356_5
         try clear hx356_6
         try clear p2
         try clear p3
         try clear p348
         try clear p350
         try clear p352
         try clear p354
         try clear p356
         try clear p6
         try clear q3
         try clear q348
         try clear q350
         try clear q352
         try clear q354
         try clear q356
         obtain ⟨x5_3,rfl,HA,HK3,HB⟩ := hrel
         cases gk with
         | zero=>exact absurd HA.out (by simp [gangsawref31_Check.l2])
         | succ k3 =>
          have H:=HA.out;clear HA;simp only [gangsawref31_Check.l2] at H;by_cases c20 : x5_3 < (l0.length : Int)
          ·rw [if_pos c20] at H;have c20b0 : decide (x5_3 < (l0.length : Int)) = true:=decide_eq_true c20;clear c20
           obtain ⟨ji21,hji21⟩ : ∃ j_ : Int,(wrap64 (x5_3 - 1)) = j_:=⟨_,rfl⟩
           replace H : (if 0 ≤ (ji21) then (if (ji21) < (l0.length : Int) then (if 0 ≤ x5_3 then (if ((Op.bytesLess (((rd_T39 l0 (ji21)).f0).toList) (((rd_T39 l0 x5_3).f0).toList)) = true) then (gangsawref31_Check.l2 k3 l0 (wrap64 (x5_3 + 1))) else (some 5)) else (none)) else (none)) else (none)) = some r:=by first|(rw [hji21] at H;exact H)|(simp only [hji21] at H ⊢;exact H)
           have hji21w : (IntKind.i64.wrap (x5_3 - 1)) = ji21:=(i64_w _).trans hji21;by_cases c22 : 0 ≤ (ji21)
           ·rw [if_pos c22] at H;have c22b0 : decide (0 ≤ (ji21)) = true:=decide_eq_true c22;clear c22;by_cases c23 : (ji21) < (l0.length : Int)
            ·rw [if_pos c23] at H;have c23b0 : decide ((ji21) < (l0.length : Int)) = true:=decide_eq_true c23;clear c23;by_cases c24 : 0 ≤ x5_3
             ·rw [if_pos c24] at H;have c24b0 : decide (0 ≤ x5_3) = true:=decide_eq_true c24;clear c24;by_cases c25 : ((Op.bytesLess (((rd_T39 l0 (ji21)).f0).toList) (((rd_T39 l0 x5_3).f0).toList)) = true)
              ·rw [if_pos c25] at H;have c25b0 : (Op.bytesLess (((rd_T39 l0 (ji21)).f0).toList) (((rd_T39 l0 x5_3).f0).toList)) = true:=c25;clear c25;have H':=am H;clear H;have p358 : 0 ≤ ((ji21) : Int):=dt;have q358 : (ji21) < (l0.length : Int):=dt;obtain ⟨ad358,e358,hx358_0,hx358_1,hx358_2,hx358_3,hx358_4,hx358_5,hx358_6⟩ := at_T39 HR0.out (ji21) p358 q358
               cases e358
               replace hx358_0:=hc HB hx358_0;replace hx358_1:=hc HB hx358_1;replace hx358_2:=hc HB hx358_2;replace hx358_3:=hc HB hx358_3;replace hx358_4:=hc HB hx358_4;replace hx358_5:=hc HB hx358_5;replace hx358_6:=hc HB hx358_6;replace p358:=eq_true p358;replace q358:=eq_true q358;have p359 : 0 ≤ (x5_3 : Int):=dt;have q359 : x5_3 < (l0.length : Int):=dt;obtain ⟨ad359,e359,hx359_0,hx359_1,hx359_2,hx359_3,hx359_4,hx359_5,hx359_6⟩ := at_T39 HR0.out x5_3 p359 q359
               obtain rfl : ad358 = ad359:=(by injection e359)
               replace hx359_0:=hc HB hx359_0;replace hx359_1:=hc HB hx359_1;replace hx359_2:=hc HB hx359_2;replace hx359_3:=hc HB hx359_3;replace hx359_4:=hc HB hx359_4;replace hx359_5:=hc HB hx359_5;replace hx359_6:=hc HB hx359_6;replace p359:=eq_true p359;replace q359:=eq_true q359
               go_wp2
               repeat (go_quiet (fail);try go_wp2)
               go_roundg k3
               case measure=>have:=HK1.out;have:=HK2.out;have:=HK3.out;omega
               case rel=>exact ⟨(wrap64 (x5_3 + 1)),(by first|rfl|(simp;done)|(simp [*];done)),H',⟨by have:=HK1.out;have:=HK2.out;have:=HK3.out;omega⟩,⟨by repeat (first|(with_reducible first|exact HB.out|apply lA|apply lN|apply lD)|exact HB.out)⟩⟩
              ·rw [if_neg c25] at H
               have c25b0 : (Op.bytesLess (((rd_T39 l0 (ji21)).f0).toList) (((rd_T39 l0 x5_3).f0).toList)) = false:=by simpa using c25
               clear c25;obtain rfl:=Option.some.inj H;have p358 : 0 ≤ ((ji21) : Int):=dt;have q358 : (ji21) < (l0.length : Int):=dt;obtain ⟨ad358,e358,hx358_0,hx358_1,hx358_2,hx358_3,hx358_4,hx358_5,hx358_6⟩ := at_T39 HR0.out (ji21) p358 q358
               cases e358
               replace hx358_0:=hc HB hx358_0;replace hx358_1:=hc HB hx358_1;replace hx358_2:=hc HB hx358_2;replace hx358_3:=hc HB hx358_3;replace hx358_4:=hc HB hx358_4;replace hx358_5:=hc HB hx358_5;replace hx358_6:=hc HB hx358_6;replace p358:=eq_true p358;replace q358:=eq_true q358;have p359 : 0 ≤ (x5_3 : Int):=dt;have q359 : x5_3 < (l0.length : Int):=dt;obtain ⟨ad359,e359,hx359_0,hx359_1,hx359_2,hx359_3,hx359_4,hx359_5,hx359_6⟩ := at_T39 HR0.out x5_3 p359 q359
               obtain rfl : ad358 = ad359:=(by injection e359)
               replace hx359_0:=hc HB hx359_0;replace hx359_1:=hc HB hx359_1;replace hx359_2:=hc HB hx359_2;replace hx359_3:=hc HB hx359_3;replace hx359_4:=hc HB hx359_4;replace hx359_5:=hc HB hx359_5;replace hx359_6:=hc HB hx359_6;replace p359:=eq_true p359;replace q359:=eq_true q359
               go_wp2
               repeat (go_quiet (fail);try go_wp2)
               go_ret
               exact ⟨by first|rfl|(simp [errW_none,errW_some] <;> rfl)|(simp only [← hji21];first|rfl|(simp [errW_none,errW_some] <;> rfl))|(simp [*,errW_none,errW_some] <;> rfl),by repeat (first|(with_reducible first|exact HB.out|apply lA|apply lN|apply lD)|exact HB.out)⟩
             (rw [if_neg c24] at H;exact absurd H (by simp))
            (rw [if_neg c23] at H;exact absurd H (by simp))
           (rw [if_neg c22] at H;exact absurd H (by simp))
          ·rw [if_neg c20] at H;have c20b0 : decide (x5_3 < (l0.length : Int)) = false:=decide_eq_false c20;clear c20;obtain rfl:=Option.some.inj H
           go_wp2
           repeat (go_quiet (fail);try go_wp2)
           go_ret
           exact ⟨by first|rfl|(simp [errW_none,errW_some] <;> rfl)|(simp [*,errW_none,errW_some] <;> rfl),by repeat (first|(with_reducible first|exact HB.out|apply lA|apply lN|apply lD)|exact HB.out)⟩
def gangsawref31_Product.f (a0_0 : Int) (a0_1 : Int) (a0_2 : Int) : Option (Int):=some (wrap64 ((wrap64 (a0_0 * a0_1)) * a0_2))
set_option maxHeartbeats 8000000 in
set_option maxRecDepth 100000 in
theorem gangsawref31_Product.calls (a0_0 : Int) (a0_1 : Int) (a0_2 : Int) (r : Int) (w : World) (h : gangsawref31_Product.f a0_0 a0_1 a0_2 = some r) :
  Calls Try.prog 52 #[.agg #[.int .i64 a0_0,.int .i64 a0_1,.int .i64 a0_2]] w fun e w'=>e = .returned (.int .i64 r) ∧ Below w.heap.size w w':=by
 have hu24:=Try.underlying24;have HB:=am (Below.refl w.heap.size w);have H : (some (wrap64 ((wrap64 (a0_0 * a0_1)) * a0_2))) = some r:=h;clear h;obtain rfl:=Option.some.inj H
 go_enter Try.func52,Try.ntmps52
 go_wp2_with (first|((with_reducible refine gate_dst (N:=1) rfl ?_);refine be 1 24 (cs:=#[.int .i64 a0_0,.int .i64 a0_1,.int .i64 a0_2]) ?_;intro gb360 hg w2 hbox hb;have BK360:=am hbox;have GW360:=bza HB hg;have GE360:=bza HB hg;replace HB:=bsa HB hb;clear hb hbox hg;obtain ⟨hcz3_0,hcz3_1,hcz3_2,hfz3_0,hfz3_1,hfz3_2⟩ := c3_ BK360.out))
 go_ret
 exact ⟨by first|rfl|(simp [errW_none,errW_some] <;> rfl)|(simp [*,errW_none,errW_some] <;> rfl),by repeat (first|(with_reducible first|exact HB.out|apply lA|apply lN|apply lD|refine lS ?_ GE360.out)|exact HB.out)⟩
end Go.Proofs.Ytbggjmdelnmilaa.PA
