import Derived.Test.YtohcgenhhgipcaaPAx0
import Derived.Test.YtohcgenhhgipcaaPAx1
namespace Go.Proofs.Ytohcgenhhgipcaa.PA
open Go.RowKit Go.Proofs.YtohcgenhhgipcaaW.PrintWords Go.Proofs.YtohcgenhhgipcaaW.PrintLast Go.Proofs.YtohcgenhhgipcaaW.PrintMore
attribute [local go_sem] max2_int min2_int max_two min_two max_three min_three max_four min_four   -- for this text's walks alone
set_option linter.unusedVariables false
set_option linter.unusedSimpArgs false

attribute [local go_sem high] eqA61
mutual
def gangsawref54_SameTrips.l0 : Nat → List (S47) → List (S47) → Int → Option (Bool)
 | 0,_,_,_=>none
 | k + 1,x0,x1,x5=>if x5 < (x0.length : Int) then (if 0 ≤ x5 then (if x5 < (x1.length : Int) then (if ((rd_T47 x0 x5).f0).toList = ((rd_T47 x1 x5).f0).toList then (gangsawref54_SameTrips.j1 k x0 x1 x5 ((((rd_T47 x0 x5).f1).length : Int) != (((rd_T47 x1 x5).f1).length : Int))) else (gangsawref54_SameTrips.j1 k x0 x1 x5 true)) else (none)) else (none)) else (some true)
def gangsawref54_SameTrips.j1 : Nat → List (S47) → List (S47) → Int → Bool → Option (Bool)
 | 0,_,_,_,_=>none
 | k + 1,x0,x1,x5,x43=>if x43 = true then (some false) else (gangsawref54_SameTrips.l1 k x0 x1 x5 0)
def gangsawref54_SameTrips.l1 : Nat → List (S47) → List (S47) → Int → Int → Option (Bool)
 | 0,_,_,_,_=>none
 | k + 1,x0,x1,x5,x6=>if 0 ≤ x5 then (if x5 < (x0.length : Int) then (if x6 < (((rd_T47 x0 x5).f1).length : Int) then (if 0 ≤ x6 then (if x5 < (x1.length : Int) then (if x6 < (((rd_T47 x1 x5).f1).length : Int) then (if (!((((rd_T61 ((rd_T47 x0 x5).f1) x6).f0).toList) == (((rd_T61 ((rd_T47 x1 x5).f1) x6).f0).toList)) || (!(((rd_T61 ((rd_T47 x0 x5).f1) x6).f1) == ((rd_T61 ((rd_T47 x1 x5).f1) x6).f1)) || (!(((rd_T61 ((rd_T47 x0 x5).f1) x6).f2) == ((rd_T61 ((rd_T47 x1 x5).f1) x6).f2)) || (!(((rd_T61 ((rd_T47 x0 x5).f1) x6).f3) == ((rd_T61 ((rd_T47 x1 x5).f1) x6).f3)))))) = true then (some false) else (gangsawref54_SameTrips.l1 k x0 x1 x5 (wrap64 (x6 + 1)))) else (none)) else (none)) else (none)) else (gangsawref54_SameTrips.l0 k x0 x1 (wrap64 (x5 + 1)))) else (none)) else (none)
end
def gangsawref54_SameTrips.f (k : Nat) (l0 : List (S47)) (l1 : List (S47)) : Option (Bool):=if (l0.length : Int) = (l1.length : Int) then (gangsawref54_SameTrips.l0 k l0 l1 0) else (some false)
set_option maxHeartbeats 8000000 in
set_option maxRecDepth 100000 in
theorem gangsawref54_SameTrips.calls (k : Nat) (A0 : Option Addr) (c0 : Nat) (l0 : List (S47)) (A1 : Option Addr) (c1 : Nat) (l1 : List (S47)) (r : Bool) (w : World) (hr0 : Kd.C k47 w A0 l0.length l0) (hc0 : l0.length ≤ c0) (hr1 : Kd.C k47 w A1 l1.length l1) (hc1 : l1.length ≤ c1) (h : gangsawref54_SameTrips.f k l0 l1 = some r) :
  Calls Try.prog 21 #[.slice A0 l0.length c0,.slice A1 l1.length c1] w fun e w'=>e = .returned (.bool r) ∧ Drawn0 w w':=by
 have hu61:=Try.underlying61;have HR0:=am hr0;have HC0:=am hc0;clear hr0 hc0;have HR1:=am hr1;have HC1:=am hc1;clear hr1 hc1;have H : (if (l0.length : Int) = (l1.length : Int) then (gangsawref54_SameTrips.l0 k l0 l1 0) else (some false)) = some r:=h;clear h;by_cases c3 : (l0.length : Int) = (l1.length : Int)
 ·rw [if_pos c3] at H;have c3b0 : ((l0.length : Int) == (l1.length : Int)) = true:=beq_iff_eq.mpr c3;have c3b1 : ((l0.length : Int) != (l1.length : Int)) = false:=bne_eq_false_iff_eq.mpr c3
  have c3b2 : (l0.length == l1.length) = true:=by first|simpa using c3|(simp at c3 ⊢;omega)
  clear c3;have H':=am H;clear H
  go_enter Try.func21,Try.ntmps21
  go_wp2
  repeat (go_quiet (fail);try go_wp2)
  go_loopg [5] k (fun kq v5 w'=>∃ (x5_1 : Int),v5 = .int .i64 x5_1 ∧ Aside0 (gangsawref54_SameTrips.l0 kq l0 l1 x5_1 = some r) ∧ Aside0 (kq ≤ k) ∧ Drawn0 w w')
  case atStart=>exact ⟨(0),(by first|rfl|(simp;done)|(simp [*];done)),H',⟨Nat.le_refl _⟩,by repeat (first|exact Drawn0.refl _|apply Drawn0.step)⟩
  case round =>
   clear H'
   try clear c1
   try clear c2
   try clear p2
   try clear c3
   try clear c3b0
   try clear c3b1
   try clear c3b2
   obtain ⟨x5_1,rfl,HA,HK1,⟨m1,rfl⟩⟩ := hrel
   cases gk with
   | zero=>exact absurd HA.out (by simp [gangsawref54_SameTrips.l0])
   | succ k1 =>
    have H:=HA.out;clear HA;simp only [gangsawref54_SameTrips.l0] at H;by_cases c4 : x5_1 < (l0.length : Int)
    ·rw [if_pos c4] at H;have c4b0 : decide (x5_1 < (l0.length : Int)) = true:=decide_eq_true c4;clear c4;have HC5:=am H;clear H
     go_upto_region 6 with (fail)
     repeat (go_quiet (fail);go_upto_region 6 with (fail))
     go_cut [43] (fun v43 wc=>∃ (kq : Nat) (x43_4 : Bool),v43 = .bool x43_4 ∧ Aside0 (gangsawref54_SameTrips.j1 kq l0 l1 x5_1 x43_4 = some r) ∧ Aside0 (kq ≤ k1) ∧ Drawn0 w wc)
     case first =>
      have H:=HC5.out;clear HC5;by_cases c6 : 0 ≤ x5_1
      ·rw [if_pos c6] at H;have c6b0 : decide (0 ≤ x5_1) = true:=decide_eq_true c6;clear c6;(first|rw [c6b0]|(simp only [i64_w,i32_w];rw [c6b0])|skip)
       by_cases c7 : x5_1 < (l1.length : Int)
       ·rw [if_pos c7] at H;have c7b0 : decide (x5_1 < (l1.length : Int)) = true:=decide_eq_true c7;clear c7;by_cases c8 : ((rd_T47 l0 x5_1).f0).toList = ((rd_T47 l1 x5_1).f0).toList
        ·rw [if_pos c8] at H;have c8b0 : (((rd_T47 l0 x5_1).f0).toList == ((rd_T47 l1 x5_1).f0).toList) = true:=beq_iff_eq.mpr c8;have c8b1 : (((rd_T47 l0 x5_1).f0).toList != ((rd_T47 l1 x5_1).f0).toList) = false:=bne_eq_false_iff_eq.mpr c8;clear c8;have H':=am H;clear H;have p352 : 0 ≤ (x5_1 : Int):=of_decide_eq_true (by first|(with_reducible assumption)|assumption);have q352 : x5_1 < (l0.length : Int):=of_decide_eq_true (by first|(with_reducible assumption)|assumption);obtain ⟨ad352,A352_1,c352_1,e352,hx352_0,hx352_1,hl352_1,hi352_1⟩ := at_T47 HR0.out x5_1 p352 q352
         cases e352
         have HR352_1:=am hi352_1;have HC352_1:=am hl352_1;clear hi352_1 hl352_1;replace p352:=eq_true p352;replace q352:=eq_true q352;have p353 : 0 ≤ (x5_1 : Int):=of_decide_eq_true (by first|(with_reducible assumption)|assumption);have q353 : x5_1 < (l1.length : Int):=of_decide_eq_true (by first|(with_reducible assumption)|assumption);obtain ⟨ad353,A353_1,c353_1,e353,hx353_0,hx353_1,hl353_1,hi353_1⟩ := at_T47 HR1.out x5_1 p353 q353
         cases e353
         have HR353_1:=am hi353_1;have HC353_1:=am hl353_1;clear hi353_1 hl353_1;replace p353:=eq_true p353;replace q353:=eq_true q353;have p354 : 0 ≤ (x5_1 : Int):=of_decide_eq_true (by first|(with_reducible assumption)|assumption);have q354 : x5_1 < (l0.length : Int):=of_decide_eq_true (by first|(with_reducible assumption)|assumption);obtain ⟨ad354,A354_1,c354_1,e354,hx354_0,hx354_1,hl354_1,hi354_1⟩ := at_T47 HR0.out x5_1 p354 q354
         obtain rfl : ad352 = ad354:=(by injection e354)
         have HR354_1:=am hi354_1;have HC354_1:=am hl354_1;clear hi354_1 hl354_1;replace p354:=eq_true p354;replace q354:=eq_true q354;have ea_:=Option.some.inj (hx352_1.symm.trans hx354_1)
         injection ea_ with ea_ en_ ec_
         subst ea_;subst ec_;clear en_;have p355 : 0 ≤ (x5_1 : Int):=of_decide_eq_true (by first|(with_reducible assumption)|assumption);have q355 : x5_1 < (l1.length : Int):=of_decide_eq_true (by first|(with_reducible assumption)|assumption);obtain ⟨ad355,A355_1,c355_1,e355,hx355_0,hx355_1,hl355_1,hi355_1⟩ := at_T47 HR1.out x5_1 p355 q355
         obtain rfl : ad353 = ad355:=(by injection e355)
         have HR355_1:=am hi355_1;have HC355_1:=am hl355_1;clear hi355_1 hl355_1;replace p355:=eq_true p355;replace q355:=eq_true q355;have ea_:=Option.some.inj (hx353_1.symm.trans hx355_1)
         injection ea_ with ea_ en_ ec_
         subst ea_;subst ec_;clear en_
         go_wp2
         repeat (go_quiet (fail);try go_wp2)
         go_meet
         case rel=>exact ⟨_,(((((rd_T47 l0 x5_1).f1).length : Int) != (((rd_T47 l1 x5_1).f1).length : Int))),(by first|rfl|(simp;done)|(simp [*];done)),H',⟨by have:=HK1.out;first|omega|exact Nat.le_refl _⟩,by repeat (first|exact Drawn0.refl _|apply Drawn0.step)⟩
        ·rw [if_neg c8] at H;have c8b0 : (((rd_T47 l0 x5_1).f0).toList == ((rd_T47 l1 x5_1).f0).toList) = false:=beq_eq_false_iff_ne.mpr c8;have c8b1 : (((rd_T47 l0 x5_1).f0).toList != ((rd_T47 l1 x5_1).f0).toList) = true:=bne_iff_ne.mpr c8;have H':=am H;clear H;have p352 : 0 ≤ (x5_1 : Int):=of_decide_eq_true (by first|(with_reducible assumption)|assumption);have q352 : x5_1 < (l0.length : Int):=of_decide_eq_true (by first|(with_reducible assumption)|assumption);obtain ⟨ad352,A352_1,c352_1,e352,hx352_0,hx352_1,hl352_1,hi352_1⟩ := at_T47 HR0.out x5_1 p352 q352
         cases e352
         have HR352_1:=am hi352_1;have HC352_1:=am hl352_1;clear hi352_1 hl352_1;replace p352:=eq_true p352;replace q352:=eq_true q352;have p353 : 0 ≤ (x5_1 : Int):=of_decide_eq_true (by first|(with_reducible assumption)|assumption);have q353 : x5_1 < (l1.length : Int):=of_decide_eq_true (by first|(with_reducible assumption)|assumption);obtain ⟨ad353,A353_1,c353_1,e353,hx353_0,hx353_1,hl353_1,hi353_1⟩ := at_T47 HR1.out x5_1 p353 q353
         cases e353
         have HR353_1:=am hi353_1;have HC353_1:=am hl353_1;clear hi353_1 hl353_1;replace p353:=eq_true p353;replace q353:=eq_true q353
         go_wp2
         repeat (go_quiet (fail);try go_wp2)
         go_meet
         case rel=>exact ⟨_,(true),(by first|rfl|(simp;done)|(simp [*];done)),H',⟨by have:=HK1.out;first|omega|exact Nat.le_refl _⟩,by repeat (first|exact Drawn0.refl _|apply Drawn0.step)⟩
       (rw [if_neg c7] at H;exact absurd H (by simp))
      (rw [if_neg c6] at H;exact absurd H (by simp))
     case rest =>
      clear HC5
      try clear c1
      try clear c2
      try clear p2
      try clear c3
      try clear c3b0
      try clear c3b1
      try clear c3b2
      try clear p3
      try clear q3
      try clear hx3
      try clear c4
      try clear c4b0
      try clear c6
      try clear c6b0
      try clear c7
      try clear c7b0
      try clear c8
      try clear c8b0
      try clear c8b1
      try clear hx352_0
      try clear hx352_1
      try clear hx353_0
      try clear hx353_1
      try clear hx354_0
      try clear hx354_1
      try clear hx355_0
      try clear hx355_1
      try clear p2
      try clear p352
      try clear p353
      try clear p354
      try clear p355
      try clear q352
      try clear q353
      try clear q354
      try clear q355
      obtain ⟨kq,x43_4,rfl,HA,HJ4,⟨mc4,rfl⟩⟩ := hcut
      cases kq with
      | zero=>exact absurd HA.out (by simp [gangsawref54_SameTrips.j1])
      | succ kj4 =>
       have H:=HA.out;clear HA;simp only [gangsawref54_SameTrips.j1] at H;by_cases c9 : x43_4 = true
       ·subst c9
        have H1 : (some false) = some r:=by rw [if_pos rfl] at H;exact H
        clear H;have H:=H1;clear H1;obtain rfl:=Option.some.inj H
        go_wp2
        repeat (go_quiet (fail);try go_wp2)
        go_ret
        exact ⟨by first|rfl|(simp;done)|(simp [*];done),by repeat (first|exact Drawn0.refl _|apply Drawn0.step)⟩
       ·replace c9:=Bool.eq_false_iff.mpr c9;subst c9
        have H1 : (gangsawref54_SameTrips.l1 kj4 l0 l1 x5_1 0) = some r:=by rw [if_neg (show ¬ (false = true) by decide)] at H;exact H
        clear H;have H:=H1;clear H1;have H':=am H;clear H
        go_wp2
        repeat (go_quiet (fail);try go_wp2)
        go_loopg [6] kj4 (fun kq v6 w'=>∃ (x6_3 : Int),v6 = .int .i64 x6_3 ∧ Aside0 (gangsawref54_SameTrips.l1 kq l0 l1 x5_1 x6_3 = some r) ∧ Aside0 (kq ≤ kj4) ∧ Drawn0 w w')
        case atStart=>exact ⟨(0),(by first|rfl|(simp;done)|(simp [*];done)),H',⟨Nat.le_refl _⟩,by repeat (first|exact Drawn0.refl _|apply Drawn0.step)⟩
        case round =>
         clear H'
         try clear c1
         try clear c2
         try clear p2
         try clear c3
         try clear c3b0
         try clear c3b1
         try clear c3b2
         try clear p3
         try clear q3
         try clear hx3
         try clear c4
         try clear c4b0
         try clear c6
         try clear c6b0
         try clear c7
         try clear c7b0
         try clear c8
         try clear c8b0
         try clear c8b1
         try clear c9
         try clear hx352_0
         try clear hx352_1
         try clear hx353_0
         try clear hx353_1
         try clear hx354_0
         try clear hx354_1
         try clear hx355_0
         try clear hx355_1
         try clear p2
         try clear p3
         try clear p352
         try clear p353
         try clear p354
         try clear p355
         try clear q3
         try clear q352
         try clear q353
         try clear q354
         try clear q355
         obtain ⟨x6_3,rfl,HA,HK3,⟨m3,rfl⟩⟩ := hrel
         cases gk with
         | zero=>exact absurd HA.out (by simp [gangsawref54_SameTrips.l1])
         | succ k3 =>
          have H:=HA.out;clear HA;simp only [gangsawref54_SameTrips.l1] at H;by_cases c10 : 0 ≤ x5_1
          ·rw [if_pos c10] at H;have c10b0 : decide (0 ≤ x5_1) = true:=decide_eq_true c10;clear c10;by_cases c11 : x5_1 < (l0.length : Int)
           ·rw [if_pos c11] at H;have c11b0 : decide (x5_1 < (l0.length : Int)) = true:=decide_eq_true c11;clear c11;by_cases c12 : x6_3 < (((rd_T47 l0 x5_1).f1).length : Int)
            ·rw [if_pos c12] at H;have c12b0 : decide (x6_3 < (((rd_T47 l0 x5_1).f1).length : Int)) = true:=decide_eq_true c12;clear c12;by_cases c13 : 0 ≤ x6_3
             ·rw [if_pos c13] at H;have c13b0 : decide (0 ≤ x6_3) = true:=decide_eq_true c13;clear c13;by_cases c14 : x5_1 < (l1.length : Int)
              ·rw [if_pos c14] at H;have c14b0 : decide (x5_1 < (l1.length : Int)) = true:=decide_eq_true c14;clear c14;by_cases c15 : x6_3 < (((rd_T47 l1 x5_1).f1).length : Int)
               ·rw [if_pos c15] at H;have c15b0 : decide (x6_3 < (((rd_T47 l1 x5_1).f1).length : Int)) = true:=decide_eq_true c15;clear c15;by_cases c16 : (!((((rd_T61 ((rd_T47 l0 x5_1).f1) x6_3).f0).toList) == (((rd_T61 ((rd_T47 l1 x5_1).f1) x6_3).f0).toList)) || (!(((rd_T61 ((rd_T47 l0 x5_1).f1) x6_3).f1) == ((rd_T61 ((rd_T47 l1 x5_1).f1) x6_3).f1)) || (!(((rd_T61 ((rd_T47 l0 x5_1).f1) x6_3).f2) == ((rd_T61 ((rd_T47 l1 x5_1).f1) x6_3).f2)) || (!(((rd_T61 ((rd_T47 l0 x5_1).f1) x6_3).f3) == ((rd_T61 ((rd_T47 l1 x5_1).f1) x6_3).f3)))))) = true
                ·rw [if_pos c16] at H;have c16b0 : (!((((rd_T61 ((rd_T47 l0 x5_1).f1) x6_3).f0).toList) == (((rd_T61 ((rd_T47 l1 x5_1).f1) x6_3).f0).toList)) || (!(((rd_T61 ((rd_T47 l0 x5_1).f1) x6_3).f1) == ((rd_T61 ((rd_T47 l1 x5_1).f1) x6_3).f1)) || (!(((rd_T61 ((rd_T47 l0 x5_1).f1) x6_3).f2) == ((rd_T61 ((rd_T47 l1 x5_1).f1) x6_3).f2)) || (!(((rd_T61 ((rd_T47 l0 x5_1).f1) x6_3).f3) == ((rd_T61 ((rd_T47 l1 x5_1).f1) x6_3).f3)))))) = true:=c16;clear c16;obtain rfl:=Option.some.inj H;have p356 : 0 ≤ (x5_1 : Int):=of_decide_eq_true (by first|(with_reducible assumption)|assumption);have q356 : x5_1 < (l0.length : Int):=of_decide_eq_true (by first|(with_reducible assumption)|assumption);obtain ⟨ad356,A356_1,c356_1,e356,hx356_0,hx356_1,hl356_1,hi356_1⟩ := at_T47 HR0.out x5_1 p356 q356
                 cases e356
                 have HR356_1:=am hi356_1;have HC356_1:=am hl356_1;clear hi356_1 hl356_1;replace p356:=eq_true p356;replace q356:=eq_true q356;have p357 : 0 ≤ (x5_1 : Int):=of_decide_eq_true (by first|(with_reducible assumption)|assumption);have q357 : x5_1 < (l0.length : Int):=of_decide_eq_true (by first|(with_reducible assumption)|assumption);obtain ⟨ad357,A357_1,c357_1,e357,hx357_0,hx357_1,hl357_1,hi357_1⟩ := at_T47 HR0.out x5_1 p357 q357
                 obtain rfl : ad356 = ad357:=(by injection e357)
                 have HR357_1:=am hi357_1;have HC357_1:=am hl357_1;clear hi357_1 hl357_1;replace p357:=eq_true p357;replace q357:=eq_true q357;have ea_:=Option.some.inj (hx356_1.symm.trans hx357_1)
                 injection ea_ with ea_ en_ ec_
                 subst ea_;subst ec_;clear en_;have p358 : 0 ≤ (x6_3 : Int):=of_decide_eq_true (by first|(with_reducible assumption)|assumption);have q358 : x6_3 < (((rd_T47 l0 x5_1).f1).length : Int):=of_decide_eq_true (by first|(with_reducible assumption)|assumption);obtain ⟨ad358,e358,hx358_0,hx358_1,hx358_2,hx358_3⟩ := at_T61 HR357_1.out x6_3 p358 q358
                 cases e358
                 replace p358:=eq_true p358;replace q358:=eq_true q358;have p359 : 0 ≤ (x5_1 : Int):=of_decide_eq_true (by first|(with_reducible assumption)|assumption);have q359 : x5_1 < (l1.length : Int):=of_decide_eq_true (by first|(with_reducible assumption)|assumption);obtain ⟨ad359,A359_1,c359_1,e359,hx359_0,hx359_1,hl359_1,hi359_1⟩ := at_T47 HR1.out x5_1 p359 q359
                 cases e359
                 have HR359_1:=am hi359_1;have HC359_1:=am hl359_1;clear hi359_1 hl359_1;replace p359:=eq_true p359;replace q359:=eq_true q359;have p360 : 0 ≤ (x6_3 : Int):=of_decide_eq_true (by first|(with_reducible assumption)|assumption);have q360 : x6_3 < (((rd_T47 l1 x5_1).f1).length : Int):=of_decide_eq_true (by first|(with_reducible assumption)|assumption);obtain ⟨ad360,e360,hx360_0,hx360_1,hx360_2,hx360_3⟩ := at_T61 HR359_1.out x6_3 p360 q360
                 cases e360
                 replace p360:=eq_true p360;replace q360:=eq_true q360
                 go_wp2
                 repeat (go_quiet (fail);try go_wp2)
                 go_ret
                 exact ⟨by first|rfl|(simp;done)|(simp [*];done),by repeat (first|exact Drawn0.refl _|apply Drawn0.step)⟩
                ·rw [if_neg c16] at H
                 have c16b0 : (!((((rd_T61 ((rd_T47 l0 x5_1).f1) x6_3).f0).toList) == (((rd_T61 ((rd_T47 l1 x5_1).f1) x6_3).f0).toList)) || (!(((rd_T61 ((rd_T47 l0 x5_1).f1) x6_3).f1) == ((rd_T61 ((rd_T47 l1 x5_1).f1) x6_3).f1)) || (!(((rd_T61 ((rd_T47 l0 x5_1).f1) x6_3).f2) == ((rd_T61 ((rd_T47 l1 x5_1).f1) x6_3).f2)) || (!(((rd_T61 ((rd_T47 l0 x5_1).f1) x6_3).f3) == ((rd_T61 ((rd_T47 l1 x5_1).f1) x6_3).f3)))))) = false:=by simpa using c16
                 clear c16;have H':=am H;clear H;have p356 : 0 ≤ (x5_1 : Int):=of_decide_eq_true (by first|(with_reducible assumption)|assumption);have q356 : x5_1 < (l0.length : Int):=of_decide_eq_true (by first|(with_reducible assumption)|assumption);obtain ⟨ad356,A356_1,c356_1,e356,hx356_0,hx356_1,hl356_1,hi356_1⟩ := at_T47 HR0.out x5_1 p356 q356
                 cases e356
                 have HR356_1:=am hi356_1;have HC356_1:=am hl356_1;clear hi356_1 hl356_1;replace p356:=eq_true p356;replace q356:=eq_true q356;have p357 : 0 ≤ (x5_1 : Int):=of_decide_eq_true (by first|(with_reducible assumption)|assumption);have q357 : x5_1 < (l0.length : Int):=of_decide_eq_true (by first|(with_reducible assumption)|assumption);obtain ⟨ad357,A357_1,c357_1,e357,hx357_0,hx357_1,hl357_1,hi357_1⟩ := at_T47 HR0.out x5_1 p357 q357
                 obtain rfl : ad356 = ad357:=(by injection e357)
                 have HR357_1:=am hi357_1;have HC357_1:=am hl357_1;clear hi357_1 hl357_1;replace p357:=eq_true p357;replace q357:=eq_true q357;have ea_:=Option.some.inj (hx356_1.symm.trans hx357_1)
                 injection ea_ with ea_ en_ ec_
                 subst ea_;subst ec_;clear en_;have p358 : 0 ≤ (x6_3 : Int):=of_decide_eq_true (by first|(with_reducible assumption)|assumption);have q358 : x6_3 < (((rd_T47 l0 x5_1).f1).length : Int):=of_decide_eq_true (by first|(with_reducible assumption)|assumption);obtain ⟨ad358,e358,hx358_0,hx358_1,hx358_2,hx358_3⟩ := at_T61 HR357_1.out x6_3 p358 q358
                 cases e358
                 replace p358:=eq_true p358;replace q358:=eq_true q358;have p359 : 0 ≤ (x5_1 : Int):=of_decide_eq_true (by first|(with_reducible assumption)|assumption);have q359 : x5_1 < (l1.length : Int):=of_decide_eq_true (by first|(with_reducible assumption)|assumption);obtain ⟨ad359,A359_1,c359_1,e359,hx359_0,hx359_1,hl359_1,hi359_1⟩ := at_T47 HR1.out x5_1 p359 q359
                 cases e359
                 have HR359_1:=am hi359_1;have HC359_1:=am hl359_1;clear hi359_1 hl359_1;replace p359:=eq_true p359;replace q359:=eq_true q359;have p360 : 0 ≤ (x6_3 : Int):=of_decide_eq_true (by first|(with_reducible assumption)|assumption);have q360 : x6_3 < (((rd_T47 l1 x5_1).f1).length : Int):=of_decide_eq_true (by first|(with_reducible assumption)|assumption);obtain ⟨ad360,e360,hx360_0,hx360_1,hx360_2,hx360_3⟩ := at_T61 HR359_1.out x6_3 p360 q360
                 cases e360
                 replace p360:=eq_true p360;replace q360:=eq_true q360
                 go_wp2
                 repeat (go_quiet (fail);try go_wp2)
                 go_roundg k3
                 case measure=>have:=HK1.out;have:=HJ4.out;have:=HK3.out;omega
                 case rel=>exact ⟨(wrap64 (x6_3 + 1)),(by first|rfl|(simp;done)|(simp [*];done)),H',⟨by have:=HK1.out;have:=HJ4.out;have:=HK3.out;omega⟩,by repeat (first|exact Drawn0.refl _|apply Drawn0.step)⟩
               (rw [if_neg c15] at H;exact absurd H (by simp))
              (rw [if_neg c14] at H;exact absurd H (by simp))
             (rw [if_neg c13] at H;exact absurd H (by simp))
            ·rw [if_neg c12] at H;have c12b0 : decide (x6_3 < (((rd_T47 l0 x5_1).f1).length : Int)) = false:=decide_eq_false c12;clear c12;have H':=am H;clear H;have p356 : 0 ≤ (x5_1 : Int):=of_decide_eq_true (by first|(with_reducible assumption)|assumption);have q356 : x5_1 < (l0.length : Int):=of_decide_eq_true (by first|(with_reducible assumption)|assumption);obtain ⟨ad356,A356_1,c356_1,e356,hx356_0,hx356_1,hl356_1,hi356_1⟩ := at_T47 HR0.out x5_1 p356 q356
             cases e356
             have HR356_1:=am hi356_1;have HC356_1:=am hl356_1;clear hi356_1 hl356_1;replace p356:=eq_true p356;replace q356:=eq_true q356
             go_wp2
             repeat (go_quiet (fail);try go_wp2)
             go_roundg k3
             case measure=>have:=HK1.out;have:=HJ4.out;have:=HK3.out;omega
             case rel=>exact ⟨(wrap64 (x5_1 + 1)),(by first|rfl|(simp;done)|(simp [*];done)),H',⟨by have:=HK1.out;have:=HJ4.out;have:=HK3.out;omega⟩,by repeat (first|exact Drawn0.refl _|apply Drawn0.step)⟩
           (rw [if_neg c11] at H;exact absurd H (by simp))
          (rw [if_neg c10] at H;exact absurd H (by simp))
    ·rw [if_neg c4] at H;have c4b0 : decide (x5_1 < (l0.length : Int)) = false:=decide_eq_false c4;clear c4;obtain rfl:=Option.some.inj H
     go_wp2
     repeat (go_quiet (fail);try go_wp2)
     go_ret
     exact ⟨by first|rfl|(simp;done)|(simp [*];done),by repeat (first|exact Drawn0.refl _|apply Drawn0.step)⟩
 ·rw [if_neg c3] at H;have c3b0 : ((l0.length : Int) == (l1.length : Int)) = false:=beq_eq_false_iff_ne.mpr c3;have c3b1 : ((l0.length : Int) != (l1.length : Int)) = true:=bne_iff_ne.mpr c3
  have c3b2 : (l0.length == l1.length) = false:=by first|simpa using c3|(simp at c3 ⊢;omega)
  obtain rfl:=Option.some.inj H
  go_enter Try.func21,Try.ntmps21
  go_wp2
  repeat (go_quiet (fail);try go_wp2)
  go_ret
  exact ⟨by first|rfl|(simp;done)|(simp [*];done),by repeat (first|exact Drawn0.refl _|apply Drawn0.step)⟩

def gangsawlaw54_theirs.l0 : Nat → List (S54) → List (S47) → Int → Option ((List (S47)))
 | 0,_,_,_=>none
 | k + 1,x0,x3,x4=>if x4 < (x0.length : Int) then (if 0 ≤ x4 then (if x3.length < 3518437208883 then (gangsawlaw54_theirs.l0 k x0 (x3 ++ [(⟨(rd_T54 x0 x4).f0,(rd_T54 x0 x4).f1⟩ : S47)]) (wrap64 (x4 + 1))) else (none)) else (none)) else (some x3)
def gangsawlaw54_theirs.f (k : Nat) (l0 : List (S54)) : Option ((List (S47))):=gangsawlaw54_theirs.l0 k l0 ([] : List (S47)) 0
set_option maxHeartbeats 8000000 in
set_option maxRecDepth 100000 in
theorem gangsawlaw54_theirs.calls (k : Nat) (P0_ : Nat → Prop) (A0 : Option Addr) (c0 : Nat) (l0 : List (S54)) (r : List (S47)) (w : World) (hs0 : Kd.V k54 54 w w.heap.size (fun k_ => P0_ k_) (.slice A0 l0.length c0) l0) (h : gangsawlaw54_theirs.f k l0 = some r) :
  Calls Try.prog 22 #[.slice A0 l0.length c0] w fun e w'=>∃ v0_ : Value,e = .returned (v0_) ∧ Kd.N k47 47 w' w.heap.size (fun k_=>(P0_ k_ ∨ w.heap.size ≤ k_)) v0_ r ∧ Below w.heap.size w w':=by
 have hu54:=Try.underlying54;have HO0:=am (show Kd.V k54 54 w w.heap.size (fun k_=>(P0_ k_ ∨ w.heap.size ≤ k_)) (.slice A0 l0.length c0) l0 from Kd.V_mono hs0 (fun k_ hk=>.inl hk));have HB:=am (Below.refl w.heap.size w);have H : (gangsawlaw54_theirs.l0 k l0 ([] : List (S47)) 0) = some r:=h;clear h;have H':=am H;clear H
 go_enter Try.func22,Try.ntmps22
 go_wp2
 go_loopg [3,4] k (fun kq v3 v4 w'=>∃ (x3_1 : List (S47)) (x4_1 : Int),v4 = .int .i64 x4_1 ∧ Aside0 (gangsawlaw54_theirs.l0 kq l0 x3_1 x4_1 = some r) ∧ Aside0 (kq ≤ k) ∧ Aside0 (Kd.V k54 54 w' w.heap.size (fun k_=>(P0_ k_ ∨ w.heap.size ≤ k_) ∧ some k_ ≠ (v3 : Value).ownBlock) (.slice A0 l0.length c0) l0) ∧ Aside0 (Kd.N k47 47 w' w.heap.size (fun k_=>(P0_ k_ ∨ w.heap.size ≤ k_)) v3 x3_1) ∧ Aside0 (Below w.heap.size w w'))
 case atStart=>exact ⟨(([] : List (S47))),(0),(by first|rfl|(simp;done)|(simp [*];done)),H',⟨Nat.le_refl _⟩,⟨by (with_reducible repeat (first|apply Kd.V_alloc|apply Kd.V_drewN|apply Kd.V_drew));exact Kd.V_mono HO0.out (fun _ hk=>⟨hk,(by simp [Value.ownBlock])⟩)⟩,⟨by first|exact Kd.S_nil _ _ _ _ _|exact Kd.N_nil _ _ _ _ _|exact Kd.V_nil _ _ _ _ _|exact Kd.Q_nil _ _ _ _ _|exact Kd.R_nil _ _ _ _ _⟩,⟨by repeat (first|(with_reducible first|exact HB.out|apply lA|apply lN|apply lD)|exact HB.out)⟩⟩
 case round =>
  clear H';obtain ⟨x3_1,x4_1,rfl,HA,HK1,HO_0,HO_3,HB⟩ := hrel
  cases gk with
  | zero=>exact absurd HA.out (by simp [gangsawlaw54_theirs.l0])
  | succ k1 =>
   have H:=HA.out;clear HA;simp only [gangsawlaw54_theirs.l0] at H;by_cases c2 : x4_1 < (l0.length : Int)
   ·rw [if_pos c2] at H;have c2b0 : decide (x4_1 < (l0.length : Int)) = true:=decide_eq_true c2;clear c2;by_cases c3 : 0 ≤ x4_1
    ·rw [if_pos c3] at H;have c3b0 : decide (0 ≤ x4_1) = true:=decide_eq_true c3;clear c3;by_cases c4 : x3_1.length < 3518437208883
     ·rw [if_pos c4] at H;have LMc4:=am c4;clear c4
      obtain ⟨y362,hy362⟩ : ∃ y_ : List (S47),y_ = (x3_1 ++ [(⟨(rd_T54 l0 x4_1).f0,(rd_T54 l0 x4_1).f1⟩ : S47)]):=⟨_,rfl⟩
      replace H : (gangsawlaw54_theirs.l0 k1 l0 y362 (wrap64 (x4_1 + 1))) = some r:=by first|(rw [hy362];with_reducible exact H)|(have H2_:=(Option.bind_some _ _).symm.trans H;rw [hy362];with_reducible exact H2_)|(have H2_:=(Option.bind_some _ _).symm.trans H;with_reducible exact H2_)|with_reducible exact H|(rw [hy362];exact H)|exact H
      have Ny362:=am hy362;clear hy362;have H':=am H;clear H;have p361 : 0 ≤ (x4_1 : Int):=of_decide_eq_true (by first|(with_reducible assumption)|assumption);have q361 : x4_1 < (l0.length : Int):=of_decide_eq_true (by first|(with_reducible assumption)|assumption);obtain ⟨ad361,A361_1,c361_1,e361,hx361_0,hx361_1,hl361_1,hi361_1⟩ := at_T54 (Kd.V_reads' HO_0.out).2.2 x4_1 p361 q361
      cases e361
      obtain ⟨ce361,hce361,hMe361,hcc361⟩ := Kd.V_get HO_0.out z54 x4_1 p361 (by first|exact q361|exact of_decide_eq_true (by first|(with_reducible assumption)|assumption)|(have e_:=(Kd.V_reads' HO_0.out).1;omega));obtain ⟨ua361_1,uc361_1,rfl,ul361_1,ge361_1⟩ := k54_openF hMe361;have hv361_1:=hcc361 1 _ rfl;rw [add_field _ _ 1 (by omega)] at hv361_1;replace hv361_1:=Option.some.inj (hv361_1.symm.trans hx361_1)
      injection hv361_1 with hva_ hvn_ hvc_
      rw [hva_] at ge361_1;rw [hvc_] at ul361_1;have HL361_1:=am (show Kd.V k61 61 _ w.heap.size _ _ ((rd_T54 l0 x4_1).f1) from Kd.V_mk ul361_1 ge361_1);clear hva_ hvn_ hvc_ ge361_1 ul361_1;clear hcc361 hce361;have HR361_1:=am hi361_1;have HC361_1:=am hl361_1;clear hi361_1 hl361_1;replace p361:=eq_true p361;replace q361:=eq_true q361
      go_wp2_with (first|((with_reducible refine gate_builtin (b:=.append) (xs:=#[.tmp 11,.tmp 16]) rfl ?_);at_builtin;refine Kd.N_append k47 (w0:=w) w.heap.size rfl (.tmp 11) (.tmp 16) 40 47 (.agg #[(.string ⟨#[]⟩),(.slice none 0 0)]) 40 rfl Try.underlying40 info47 rfl (by decide) (by omega) u3 x3_1 (⟨(rd_T54 l0 x4_1).f0,(rd_T54 l0 x4_1).f1⟩ : S47) [.string ((rd_T54 l0 x4_1).f0),.slice A361_1 ((rd_T54 l0 x4_1).f1).length c361_1] (fun k_=>(P0_ k_ ∨ w.heap.size ≤ k_)) (fun k_=>((fun k_=>(P0_ k_ ∨ w.heap.size ≤ k_))) k_ ∧ some k_ ≠ (u3 : Value).ownBlock) rfl rfl ?aP (fun _ hk=>hk) ?aF ?aO ?aB ?aS ?aL ?_;(case aP=>exact (k47_mkF _ _ (⟨(rd_T54 l0 x4_1).f0,(rd_T54 l0 x4_1).f1⟩ : S47) (Kd.V_reads' (Kd.V_mono (ok':=(fun k_=>((fun k_=>(P0_ k_ ∨ w.heap.size ≤ k_))) k_ ∧ some k_ ≠ (u3 : Value).ownBlock)) (HL361_1.out) (fun k_ hk=>⟨hk.1,hk.2⟩))).2.1 (Kd.V_F (Kd.V_mono (ok':=(fun k_=>((fun k_=>(P0_ k_ ∨ w.heap.size ≤ k_))) k_ ∧ some k_ ≠ (u3 : Value).ownBlock)) (HL361_1.out) (fun k_ hk=>⟨hk.1,hk.2⟩)))));(case aB=>exact (by repeat (first|(with_reducible first|exact HB.out|apply lA|apply lN|apply lD)|exact HB.out)));(case aF=>exact (fun k_ hk=>(.inr (Nat.le_trans (below_size (by repeat (first|(with_reducible first|exact HB.out|apply lA|apply lN|apply lD)|exact HB.out))) hk))));(case aO=>exact (by (with_reducible repeat (first|apply Kd.N_alloc|apply Kd.N_drewN|apply Kd.N_drew));exact HO_3.out));(case aS=>exact (below_size (by repeat (first|(with_reducible first|exact HB.out|apply lA|apply lN|apply lD)|exact HB.out))));(case aL=>have:=LMc4.out;omega);intro v363 w5 ho hb hg hat;rw [← Ny362.out] at ho;have n0_:=am (Kd.V_afterv (ok:=(fun k_=>(P0_ k_ ∨ w.heap.size ≤ k_))) (by (with_reducible repeat (first|apply Kd.V_alloc|apply Kd.V_drewN|apply Kd.V_drew));exact HO_0.out) hg hat);have n1_:=am (Kd.V_afterv (ok:=(fun k_=>(P0_ k_ ∨ w.heap.size ≤ k_))) (by (with_reducible repeat (first|apply Kd.V_alloc|apply Kd.V_drewN|apply Kd.V_drew));exact HL361_1.out) hg hat);have n2_:=am (hb);have n3_:=am (ho);clear HO_0;clear HL361_1;clear HB;clear HO_3;have HO_0:=n0_;have HL361_1:=n1_;have HB:=n2_;have HO364:=n3_;clear n0_ n1_ n2_ n3_;clear ho hb hg hat))
      go_roundg k1
      case measure=>have:=HK1.out;omega
      case rel=>exact ⟨(y362),(wrap64 (x4_1 + 1)),(by first|rfl|(simp;done)|(simp [*];done)),H',⟨by have:=HK1.out;omega⟩,⟨by (with_reducible repeat (first|apply Kd.V_alloc|apply Kd.V_drewN|apply Kd.V_drew));exact HO_0.out⟩,⟨by (with_reducible repeat (first|apply Kd.N_alloc|apply Kd.N_drewN|apply Kd.N_drew));exact HO364.out⟩,⟨by repeat (first|(with_reducible first|exact HB.out|apply lA|apply lN|apply lD)|exact HB.out)⟩⟩
     (rw [if_neg c4] at H;exact absurd H (by simp))
    (rw [if_neg c3] at H;exact absurd H (by simp))
   ·rw [if_neg c2] at H;have c2b0 : decide (x4_1 < (l0.length : Int)) = false:=decide_eq_false c2;clear c2;obtain rfl:=Option.some.inj H
    go_wp2
    go_ret
    exact ⟨_,by first|rfl|(simp [errW_none,errW_some] <;> rfl)|(simp [*,errW_none,errW_some] <;> rfl),by (with_reducible repeat (first|apply Kd.N_alloc|apply Kd.N_drewN|apply Kd.N_drew));exact HO_3.out,by repeat (first|(with_reducible first|exact HB.out|apply lA|apply lN|apply lD)|exact HB.out)⟩

end Go.Proofs.Ytohcgenhhgipcaa.PA
