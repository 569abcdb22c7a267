import Derived.Test.YtbggjmdelnmilaaPAx1
import Derived.Test.YtbggjmdelnmilaaPAx2
namespace Go.Proofs.Ytbggjmdelnmilaa.PA
open Go.RowKit Go.Proofs.YtbggjmdelnmilaaW.PrintWords Go.Proofs.YtbggjmdelnmilaaW.PrintLast Go.Proofs.YtbggjmdelnmilaaW.PrintMore
attribute [local go_sem] max2_int min2_int max_two min_two max_three min_three max_four min_four
set_option linter.unusedVariables false
set_option linter.unusedSimpArgs false
attribute [local go_sem high] eqA32 eqA39
def gangsawref31_Small.l0 : Nat → List (S39) → Int → Option (Bool)
 | 0,_,_=>none
 | k + 1,x0,x5=>if x5 < (x0.length : Int) then (if 0 ≤ x5 then (if (((rd_T39 x0 x5).f0).size : Int) > 60 then (some false) else (if (((rd_T39 x0 x5).f3).size : Int) > 60 then (some false) else (if (((rd_T39 x0 x5).f4).size : Int) > 60 then (some false) else (gangsawref31_Small.l0 k x0 (wrap64 (x5 + 1)))))) else (none)) else (some true)
def gangsawref31_Small.f (k : Nat) (l0 : List (S39)) (a1 : Int) : Option (Bool):=if (l0.length : Int) > a1 then (some false) else (gangsawref31_Small.l0 k l0 0)
set_option maxHeartbeats 8000000 in
set_option maxRecDepth 100000 in
theorem gangsawref31_Small.calls (k : Nat) (A0 : Option Addr) (c0 : Nat) (l0 : List (S39)) (a1 : Int) (r : Bool) (w : World) (hr0 : Kd.C k39 w A0 l0.length l0) (hc0 : l0.length ≤ c0) (h : gangsawref31_Small.f k l0 a1 = some r) :
  Calls Try.prog 12 #[.slice A0 l0.length c0,.int .i64 a1] w fun e w'=>e = .returned (.bool r) ∧ Drawn0 w w':=by
 have HR0:=am hr0;have HC0:=am hc0;clear hr0 hc0;have H : (if (l0.length : Int) > a1 then (some false) else (gangsawref31_Small.l0 k l0 0)) = some r:=h;clear h;by_cases c3 : (l0.length : Int) > a1
 ·rw [if_pos c3] at H;have c3b0 : decide (a1 < (l0.length : Int)) = true:=decide_eq_true c3;clear c3;obtain rfl:=Option.some.inj H
  go_enter Try.func12,Try.ntmps12
  go_wp2
  go_ret
  exact ⟨by first|rfl|(simp;done)|(simp [*];done),by repeat (first|exact Drawn0.refl _|apply Drawn0.step)⟩
 ·rw [if_neg c3] at H;have c3b0 : decide (a1 < (l0.length : Int)) = false:=decide_eq_false c3;clear c3;have H':=am H;clear H
  go_enter Try.func12,Try.ntmps12
  go_wp2
  go_loopg [5] k (fun kq v5 w'=>∃ (x5_1 : Int),v5 = .int .i64 x5_1 ∧ Aside0 (gangsawref31_Small.l0 kq l0 x5_1 = some r) ∧ Aside0 (kq ≤ k) ∧ Drawn0 w w')
  case atStart=>exact ⟨(0),(by first|rfl|(simp;done)|(simp [*];done)),H',⟨Nat.le_refl _⟩,by repeat (first|exact Drawn0.refl _|apply Drawn0.step)⟩
  case round =>
   clear H'
   try clear c1
   try clear p2
   try clear c3
   try clear c3b0
   obtain ⟨x5_1,rfl,HA,HK1,⟨m1,rfl⟩⟩ := hrel
   cases gk with
   | zero=>exact absurd HA.out (by simp [gangsawref31_Small.l0])
   | succ k1 =>
    have H:=HA.out;clear HA;simp only [gangsawref31_Small.l0] at H;by_cases c4 : x5_1 < (l0.length : Int)
    ·rw [if_pos c4] at H;have c4b0 : decide (x5_1 < (l0.length : Int)) = true:=decide_eq_true c4;clear c4;by_cases c5 : 0 ≤ x5_1
     ·rw [if_pos c5] at H;have c5b0 : decide (0 ≤ x5_1) = true:=decide_eq_true c5;clear c5;by_cases c6 : (((rd_T39 l0 x5_1).f0).size : Int) > 60
      ·rw [if_pos c6] at H;have c6b0 : decide (60 < (((rd_T39 l0 x5_1).f0).size : Int)) = true:=decide_eq_true c6;have c6b1 : decide (60 < ((rd_T39 l0 x5_1).f0).size) = true:=decide_eq_true (by omega);clear c6;obtain rfl:=Option.some.inj H;have p268 : 0 ≤ (x5_1 : Int):=dt;have q268 : x5_1 < (l0.length : Int):=dt;obtain ⟨ad268,e268,hx268_0,hx268_1,hx268_2,hx268_3,hx268_4,hx268_5,hx268_6⟩ := at_T39 HR0.out x5_1 p268 q268
       cases e268
       replace p268:=eq_true p268;replace q268:=eq_true q268
       go_wp2
       go_ret
       exact ⟨by first|rfl|(simp;done)|(simp [*];done),by repeat (first|exact Drawn0.refl _|apply Drawn0.step)⟩
      ·rw [if_neg c6] at H;have c6b0 : decide (60 < (((rd_T39 l0 x5_1).f0).size : Int)) = false:=decide_eq_false c6;have c6b1 : decide (60 < ((rd_T39 l0 x5_1).f0).size) = false:=decide_eq_false (by omega);clear c6;by_cases c7 : (((rd_T39 l0 x5_1).f3).size : Int) > 60
       ·rw [if_pos c7] at H;have c7b0 : decide (60 < (((rd_T39 l0 x5_1).f3).size : Int)) = true:=decide_eq_true c7;have c7b1 : decide (60 < ((rd_T39 l0 x5_1).f3).size) = true:=decide_eq_true (by omega);clear c7;obtain rfl:=Option.some.inj H;have p268 : 0 ≤ (x5_1 : Int):=dt;have q268 : x5_1 < (l0.length : Int):=dt;obtain ⟨ad268,e268,hx268_0,hx268_1,hx268_2,hx268_3,hx268_4,hx268_5,hx268_6⟩ := at_T39 HR0.out x5_1 p268 q268
        cases e268
        replace p268:=eq_true p268;replace q268:=eq_true q268;have p269 : 0 ≤ (x5_1 : Int):=dt;have q269 : x5_1 < (l0.length : Int):=dt;obtain ⟨ad269,e269,hx269_0,hx269_1,hx269_2,hx269_3,hx269_4,hx269_5,hx269_6⟩ := at_T39 HR0.out x5_1 p269 q269
        obtain rfl : ad268 = ad269:=(by injection e269)
        replace p269:=eq_true p269;replace q269:=eq_true q269
        go_wp2
        go_ret
        exact ⟨by first|rfl|(simp;done)|(simp [*];done),by repeat (first|exact Drawn0.refl _|apply Drawn0.step)⟩
       ·rw [if_neg c7] at H;have c7b0 : decide (60 < (((rd_T39 l0 x5_1).f3).size : Int)) = false:=decide_eq_false c7;have c7b1 : decide (60 < ((rd_T39 l0 x5_1).f3).size) = false:=decide_eq_false (by omega);clear c7;by_cases c8 : (((rd_T39 l0 x5_1).f4).size : Int) > 60
        ·rw [if_pos c8] at H;have c8b0 : decide (60 < (((rd_T39 l0 x5_1).f4).size : Int)) = true:=decide_eq_true c8;have c8b1 : decide (60 < ((rd_T39 l0 x5_1).f4).size) = true:=decide_eq_true (by omega);clear c8;obtain rfl:=Option.some.inj H;have p268 : 0 ≤ (x5_1 : Int):=dt;have q268 : x5_1 < (l0.length : Int):=dt;obtain ⟨ad268,e268,hx268_0,hx268_1,hx268_2,hx268_3,hx268_4,hx268_5,hx268_6⟩ := at_T39 HR0.out x5_1 p268 q268
         cases e268
         replace p268:=eq_true p268;replace q268:=eq_true q268;have p269 : 0 ≤ (x5_1 : Int):=dt;have q269 : x5_1 < (l0.length : Int):=dt;obtain ⟨ad269,e269,hx269_0,hx269_1,hx269_2,hx269_3,hx269_4,hx269_5,hx269_6⟩ := at_T39 HR0.out x5_1 p269 q269
         obtain rfl : ad268 = ad269:=(by injection e269)
         replace p269:=eq_true p269;replace q269:=eq_true q269;have p270 : 0 ≤ (x5_1 : Int):=dt;have q270 : x5_1 < (l0.length : Int):=dt;obtain ⟨ad270,e270,hx270_0,hx270_1,hx270_2,hx270_3,hx270_4,hx270_5,hx270_6⟩ := at_T39 HR0.out x5_1 p270 q270
         obtain rfl : ad268 = ad270:=(by injection e270)
         replace p270:=eq_true p270;replace q270:=eq_true q270
         go_wp2
         go_ret
         exact ⟨by first|rfl|(simp;done)|(simp [*];done),by repeat (first|exact Drawn0.refl _|apply Drawn0.step)⟩
        ·rw [if_neg c8] at H;have c8b0 : decide (60 < (((rd_T39 l0 x5_1).f4).size : Int)) = false:=decide_eq_false c8;have c8b1 : decide (60 < ((rd_T39 l0 x5_1).f4).size) = false:=decide_eq_false (by omega);clear c8;have H':=am H;clear H;have p268 : 0 ≤ (x5_1 : Int):=dt;have q268 : x5_1 < (l0.length : Int):=dt;obtain ⟨ad268,e268,hx268_0,hx268_1,hx268_2,hx268_3,hx268_4,hx268_5,hx268_6⟩ := at_T39 HR0.out x5_1 p268 q268
         cases e268
         replace p268:=eq_true p268;replace q268:=eq_true q268;have p269 : 0 ≤ (x5_1 : Int):=dt;have q269 : x5_1 < (l0.length : Int):=dt;obtain ⟨ad269,e269,hx269_0,hx269_1,hx269_2,hx269_3,hx269_4,hx269_5,hx269_6⟩ := at_T39 HR0.out x5_1 p269 q269
         obtain rfl : ad268 = ad269:=(by injection e269)
         replace p269:=eq_true p269;replace q269:=eq_true q269;have p270 : 0 ≤ (x5_1 : Int):=dt;have q270 : x5_1 < (l0.length : Int):=dt;obtain ⟨ad270,e270,hx270_0,hx270_1,hx270_2,hx270_3,hx270_4,hx270_5,hx270_6⟩ := at_T39 HR0.out x5_1 p270 q270
         obtain rfl : ad268 = ad270:=(by injection e270)
         replace p270:=eq_true p270;replace q270:=eq_true q270
         go_wp2
         go_roundg k1
         case measure=>have:=HK1.out;omega
         case rel=>exact ⟨(wrap64 (x5_1 + 1)),(by first|rfl|(simp;done)|(simp [*];done)),H',⟨by have:=HK1.out;omega⟩,by repeat (first|exact Drawn0.refl _|apply Drawn0.step)⟩
     (rw [if_neg c5] at H;exact absurd H (by simp))
    ·rw [if_neg c4] at H;have c4b0 : decide (x5_1 < (l0.length : Int)) = false:=decide_eq_false c4;clear c4;obtain rfl:=Option.some.inj H
     go_wp2
     go_ret
     exact ⟨by first|rfl|(simp;done)|(simp [*];done),by repeat (first|exact Drawn0.refl _|apply Drawn0.step)⟩
def gangsawref31_Few.l0 : Nat → List (S26) → Int → Option (Bool)
 | 0,_,_=>none
 | k + 1,x0,x5=>if x5 < (x0.length : Int) then (if 0 ≤ x5 then (if (((rd_T26 x0 x5).f0).size : Int) > 60 then (some false) else (if (((rd_T26 x0 x5).f3).size : Int) > 60 then (some false) else (gangsawref31_Few.l0 k x0 (wrap64 (x5 + 1))))) else (none)) else (some true)
def gangsawref31_Few.f (k : Nat) (l0 : List (S26)) (a1 : Int) : Option (Bool):=if (l0.length : Int) > a1 then (some false) else (gangsawref31_Few.l0 k l0 0)
set_option maxHeartbeats 8000000 in
set_option maxRecDepth 100000 in
theorem gangsawref31_Few.calls (k : Nat) (A0 : Option Addr) (c0 : Nat) (l0 : List (S26)) (a1 : Int) (r : Bool) (w : World) (hr0 : Kd.C k26 w A0 l0.length l0) (hc0 : l0.length ≤ c0) (h : gangsawref31_Few.f k l0 a1 = some r) :
  Calls Try.prog 13 #[.slice A0 l0.length c0,.int .i64 a1] w fun e w'=>e = .returned (.bool r) ∧ Drawn0 w w':=by
 have HR0:=am hr0;have HC0:=am hc0;clear hr0 hc0;have H : (if (l0.length : Int) > a1 then (some false) else (gangsawref31_Few.l0 k l0 0)) = some r:=h;clear h;by_cases c3 : (l0.length : Int) > a1
 ·rw [if_pos c3] at H;have c3b0 : decide (a1 < (l0.length : Int)) = true:=decide_eq_true c3;clear c3;obtain rfl:=Option.some.inj H
  go_enter Try.func13,Try.ntmps13
  go_wp2
  go_ret
  exact ⟨by first|rfl|(simp;done)|(simp [*];done),by repeat (first|exact Drawn0.refl _|apply Drawn0.step)⟩
 ·rw [if_neg c3] at H;have c3b0 : decide (a1 < (l0.length : Int)) = false:=decide_eq_false c3;clear c3;have H':=am H;clear H
  go_enter Try.func13,Try.ntmps13
  go_wp2
  go_loopg [5] k (fun kq v5 w'=>∃ (x5_1 : Int),v5 = .int .i64 x5_1 ∧ Aside0 (gangsawref31_Few.l0 kq l0 x5_1 = some r) ∧ Aside0 (kq ≤ k) ∧ Drawn0 w w')
  case atStart=>exact ⟨(0),(by first|rfl|(simp;done)|(simp [*];done)),H',⟨Nat.le_refl _⟩,by repeat (first|exact Drawn0.refl _|apply Drawn0.step)⟩
  case round =>
   clear H'
   try clear c1
   try clear p2
   try clear c3
   try clear c3b0
   obtain ⟨x5_1,rfl,HA,HK1,⟨m1,rfl⟩⟩ := hrel
   cases gk with
   | zero=>exact absurd HA.out (by simp [gangsawref31_Few.l0])
   | succ k1 =>
    have H:=HA.out;clear HA;simp only [gangsawref31_Few.l0] at H;by_cases c4 : x5_1 < (l0.length : Int)
    ·rw [if_pos c4] at H;have c4b0 : decide (x5_1 < (l0.length : Int)) = true:=decide_eq_true c4;clear c4;by_cases c5 : 0 ≤ x5_1
     ·rw [if_pos c5] at H;have c5b0 : decide (0 ≤ x5_1) = true:=decide_eq_true c5;clear c5;by_cases c6 : (((rd_T26 l0 x5_1).f0).size : Int) > 60
      ·rw [if_pos c6] at H;have c6b0 : decide (60 < (((rd_T26 l0 x5_1).f0).size : Int)) = true:=decide_eq_true c6;have c6b1 : decide (60 < ((rd_T26 l0 x5_1).f0).size) = true:=decide_eq_true (by omega);clear c6;obtain rfl:=Option.some.inj H;have p271 : 0 ≤ (x5_1 : Int):=dt;have q271 : x5_1 < (l0.length : Int):=dt;obtain ⟨ad271,e271,hx271_0,hx271_1,hx271_2,hx271_3,hx271_4,hx271_5,hx271_6⟩ := at_T26 HR0.out x5_1 p271 q271
       cases e271
       replace p271:=eq_true p271;replace q271:=eq_true q271
       go_wp2
       go_ret
       exact ⟨by first|rfl|(simp;done)|(simp [*];done),by repeat (first|exact Drawn0.refl _|apply Drawn0.step)⟩
      ·rw [if_neg c6] at H;have c6b0 : decide (60 < (((rd_T26 l0 x5_1).f0).size : Int)) = false:=decide_eq_false c6;have c6b1 : decide (60 < ((rd_T26 l0 x5_1).f0).size) = false:=decide_eq_false (by omega);clear c6;by_cases c7 : (((rd_T26 l0 x5_1).f3).size : Int) > 60
       ·rw [if_pos c7] at H;have c7b0 : decide (60 < (((rd_T26 l0 x5_1).f3).size : Int)) = true:=decide_eq_true c7;have c7b1 : decide (60 < ((rd_T26 l0 x5_1).f3).size) = true:=decide_eq_true (by omega);clear c7;obtain rfl:=Option.some.inj H;have p271 : 0 ≤ (x5_1 : Int):=dt;have q271 : x5_1 < (l0.length : Int):=dt;obtain ⟨ad271,e271,hx271_0,hx271_1,hx271_2,hx271_3,hx271_4,hx271_5,hx271_6⟩ := at_T26 HR0.out x5_1 p271 q271
        cases e271
        replace p271:=eq_true p271;replace q271:=eq_true q271;have p272 : 0 ≤ (x5_1 : Int):=dt;have q272 : x5_1 < (l0.length : Int):=dt;obtain ⟨ad272,e272,hx272_0,hx272_1,hx272_2,hx272_3,hx272_4,hx272_5,hx272_6⟩ := at_T26 HR0.out x5_1 p272 q272
        obtain rfl : ad271 = ad272:=(by injection e272)
        replace p272:=eq_true p272;replace q272:=eq_true q272
        go_wp2
        go_ret
        exact ⟨by first|rfl|(simp;done)|(simp [*];done),by repeat (first|exact Drawn0.refl _|apply Drawn0.step)⟩
       ·rw [if_neg c7] at H;have c7b0 : decide (60 < (((rd_T26 l0 x5_1).f3).size : Int)) = false:=decide_eq_false c7;have c7b1 : decide (60 < ((rd_T26 l0 x5_1).f3).size) = false:=decide_eq_false (by omega);clear c7;have H':=am H;clear H;have p271 : 0 ≤ (x5_1 : Int):=dt;have q271 : x5_1 < (l0.length : Int):=dt;obtain ⟨ad271,e271,hx271_0,hx271_1,hx271_2,hx271_3,hx271_4,hx271_5,hx271_6⟩ := at_T26 HR0.out x5_1 p271 q271
        cases e271
        replace p271:=eq_true p271;replace q271:=eq_true q271;have p272 : 0 ≤ (x5_1 : Int):=dt;have q272 : x5_1 < (l0.length : Int):=dt;obtain ⟨ad272,e272,hx272_0,hx272_1,hx272_2,hx272_3,hx272_4,hx272_5,hx272_6⟩ := at_T26 HR0.out x5_1 p272 q272
        obtain rfl : ad271 = ad272:=(by injection e272)
        replace p272:=eq_true p272;replace q272:=eq_true q272
        go_wp2
        go_roundg k1
        case measure=>have:=HK1.out;omega
        case rel=>exact ⟨(wrap64 (x5_1 + 1)),(by first|rfl|(simp;done)|(simp [*];done)),H',⟨by have:=HK1.out;omega⟩,by repeat (first|exact Drawn0.refl _|apply Drawn0.step)⟩
     (rw [if_neg c5] at H;exact absurd H (by simp))
    ·rw [if_neg c4] at H;have c4b0 : decide (x5_1 < (l0.length : Int)) = false:=decide_eq_false c4;clear c4;obtain rfl:=Option.some.inj H
     go_wp2
     go_ret
     exact ⟨by first|rfl|(simp;done)|(simp [*];done),by repeat (first|exact Drawn0.refl _|apply Drawn0.step)⟩
def gangsawlaw31_ours.f (a0_0 : ByteArray) (a0_1 : Int) (a0_2 : Int) (a0_3 : Int) (a0_4 : Int) (a0_5 : ByteArray) (a0_6 : Bool) : Option (ByteArray × Int × Int × Int × Int × ByteArray × Bool):=some (a0_0,a0_1,a0_2,a0_3,a0_4,a0_5,a0_6)
set_option maxHeartbeats 8000000 in
set_option maxRecDepth 100000 in
theorem gangsawlaw31_ours.calls (a0_0 : ByteArray) (a0_1 : Int) (a0_2 : Int) (a0_3 : Int) (a0_4 : Int) (a0_5 : ByteArray) (a0_6 : Bool) (r1 : ByteArray) (r2 : Int) (r3 : Int) (r4 : Int) (r5 : Int) (r6 : ByteArray) (r7 : Bool) (w : World) (h : gangsawlaw31_ours.f a0_0 a0_1 a0_2 a0_3 a0_4 a0_5 a0_6 = some (r1, r2, r3, r4, r5, r6, r7)) :
  Calls Try.prog 15 #[.agg #[.string a0_0,.int .i64 a0_1,.int .i64 a0_2,.int .i64 a0_3,.int .i64 a0_4,.string a0_5,.bool a0_6]] w fun e w'=>e = .returned (.agg #[.string r1,.int .i64 r2,.int .i64 r3,.int .i64 r4,.int .i64 r5,.string r6,.bool r7]) ∧ Below w.heap.size w w':=by
 have hu26:=Try.underlying26;have hu36:=Try.underlying36;have hu24:=Try.underlying24;have HB:=am (Below.refl w.heap.size w);have H : (some (a0_0,a0_1,a0_2,a0_3,a0_4,a0_5,a0_6)) = some (r1,r2,r3,r4,r5,r6,r7):=h;clear h;simp only [Option.some.injEq,Prod.mk.injEq] at H;obtain ⟨rfl,rfl,rfl,rfl,rfl,rfl,rfl⟩ := H
 go_enter Try.func15,Try.ntmps15
 go_wp2_with (first|((with_reducible refine gate_dst (N:=1) rfl ?_);refine be 1 26 (cs:=#[.string a0_0,.int .i64 a0_1,.int .i64 a0_2,.int .i64 a0_3,.int .i64 a0_4,.string a0_5,.bool a0_6]) ?_;intro gb273 hg w2 hbox hb;have BK273:=am hbox;have GW273:=bza HB hg;have GE273:=bza HB hg;replace HB:=bsa HB hb;clear hb hbox hg)|((with_reducible refine gate_dst (N:=2) rfl ?_);refine be 2 36 (cs:=#[.string (⟨#[]⟩ : ByteArray),.int .i64 0,.int .i64 0,.int .i64 0,.int .i64 0,.string (⟨#[]⟩ : ByteArray),.bool false]) ?_;intro gb274 hg w3 hbox hb;have BK274:=am hbox;have GW274:=bza HB hg;have GE274:=bza HB hg;have NB273_274:=bla BK273 hg;have NB274_273:=bga BK273 hg;replace BK273:=bba BK273 hb;replace HB:=bsa HB hb;clear hb hbox hg;have hnb4:=NB273_274.out;have hnc4:=NB274_273.out;obtain ⟨hcz5_0,hcz5_1,hcz5_2,hcz5_3,hcz5_4,hcz5_5,hcz5_6,hfz5_0,hfz5_1,hfz5_2,hfz5_3,hfz5_4,hfz5_5,hfz5_6⟩ := c7_ BK273.out;obtain ⟨hcz6_0,hcz6_1,hcz6_2,hcz6_3,hcz6_4,hcz6_5,hcz6_6,hfz6_0,hfz6_1,hfz6_2,hfz6_3,hfz6_4,hfz6_5,hfz6_6⟩ := c7_ BK274.out))
 refine bodyPost_ret (results_cell_row rfl _ _ gb274 36 #[.string a0_0,.int .i64 a0_1,.int .i64 a0_2,.int .i64 a0_3,.int .i64 a0_4,.string a0_5,.bool a0_6] (0,0) _ rfl (by refine bp (cs:=#[.string a0_0,.int .i64 a0_1,.int .i64 a0_2,.int .i64 a0_3,.int .i64 a0_4,.string a0_5,.bool false]) ?_ 6;refine bp (cs:=#[.string a0_0,.int .i64 a0_1,.int .i64 a0_2,.int .i64 a0_3,.int .i64 a0_4,.string (⟨#[]⟩ : ByteArray),.bool false]) ?_ 5;refine bp (cs:=#[.string a0_0,.int .i64 a0_1,.int .i64 a0_2,.int .i64 a0_3,.int .i64 0,.string (⟨#[]⟩ : ByteArray),.bool false]) ?_ 4;refine bp (cs:=#[.string a0_0,.int .i64 a0_1,.int .i64 a0_2,.int .i64 0,.int .i64 0,.string (⟨#[]⟩ : ByteArray),.bool false]) ?_ 3;refine bp (cs:=#[.string a0_0,.int .i64 a0_1,.int .i64 0,.int .i64 0,.int .i64 0,.string (⟨#[]⟩ : ByteArray),.bool false]) ?_ 2;refine bp (cs:=#[.string a0_0,.int .i64 0,.int .i64 0,.int .i64 0,.int .i64 0,.string (⟨#[]⟩ : ByteArray),.bool false]) ?_ 1;refine bp (cs:=#[.string (⟨#[]⟩ : ByteArray),.int .i64 0,.int .i64 0,.int .i64 0,.int .i64 0,.string (⟨#[]⟩ : ByteArray),.bool false]) ?_ 0;exact bq BK274.out) Try.underlying36 rfl (by kernel_rfl)) rfl ?_
 exact ⟨by first|rfl|(simp [errW_none,errW_some] <;> rfl)|(simp [*,errW_none,errW_some] <;> rfl),by repeat (first|(with_reducible first|exact HB.out|apply lA|apply lN|apply lD|refine lS ?_ GE273.out|refine lS ?_ GE274.out)|exact HB.out)⟩
end Go.Proofs.Ytbggjmdelnmilaa.PA
