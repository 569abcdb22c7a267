import Derived.Test.YtnjikioimompnaaPAx0
namespace Go.Proofs.Ytnjikioimompnaa.PA
open Go.RowKit Go.Proofs.YtnjikioimompnaaW.PrintWords Go.Proofs.YtnjikioimompnaaW.PrintLast Go.Proofs.YtnjikioimompnaaW.PrintMore
attribute [local go_sem] max2_int min2_int max_two min_two max_three min_three max_four min_four
set_option linter.unusedVariables false
set_option linter.unusedSimpArgs false
mutual
def gangsawref19_Name.j0 : Nat → ByteArray → Bool → Option (Bool)
 | 0,_,_=>none
 | k + 1,x0,x21=>if x21 = true then (some false) else (gangsawref19_Name.l0 k x0 0)
def gangsawref19_Name.l0 : Nat → ByteArray → Int → Option (Bool)
 | 0,_,_=>none
 | k + 1,x0,x3=>if x3 < (x0.size : Int) then (if 0 ≤ x3 then (if (bt x0 x3) < 97 then (if (bt x0 x3) < 48 then (if (bt x0 x3) = 95 then (gangsawref19_Name.l0 k x0 (wrap64 (x3 + 1))) else (some false)) else (if (bt x0 x3) > 57 then (if (bt x0 x3) = 95 then (gangsawref19_Name.l0 k x0 (wrap64 (x3 + 1))) else (some false)) else (gangsawref19_Name.l0 k x0 (wrap64 (x3 + 1))))) else (if (bt x0 x3) > 122 then (if (bt x0 x3) < 48 then (if (bt x0 x3) = 95 then (gangsawref19_Name.l0 k x0 (wrap64 (x3 + 1))) else (some false)) else (if (bt x0 x3) > 57 then (if (bt x0 x3) = 95 then (gangsawref19_Name.l0 k x0 (wrap64 (x3 + 1))) else (some false)) else (gangsawref19_Name.l0 k x0 (wrap64 (x3 + 1))))) else (gangsawref19_Name.l0 k x0 (wrap64 (x3 + 1))))) else (none)) else (some true)
end
def gangsawref19_Name.f (k : Nat) (a0 : ByteArray) : Option (Bool):=if (a0.size : Int) < 1 then (gangsawref19_Name.j0 k a0 true) else (if (a0.size : Int) > 24 then (gangsawref19_Name.j0 k a0 true) else (if 0 < (a0.size : Int) then (if (bt a0 0) < 97 then (gangsawref19_Name.j0 k a0 true) else (gangsawref19_Name.j0 k a0 (decide ((bt a0 0) > 122)))) else (none)))
set_option maxHeartbeats 8000000 in
set_option maxRecDepth 100000 in
theorem gangsawref19_Name.calls (k : Nat) (a0 : ByteArray) (r : Bool) (w : World) (h : gangsawref19_Name.f k a0 = some r) :
  Calls Try.prog 33 #[.string a0] w fun e w'=>e = .returned (.bool r) ∧ Drawn0 w w':=by
 have H : (if (a0.size : Int) < 1 then (gangsawref19_Name.j0 k a0 true) else (if (a0.size : Int) > 24 then (gangsawref19_Name.j0 k a0 true) else (if 0 < (a0.size : Int) then (if (bt a0 0) < 97 then (gangsawref19_Name.j0 k a0 true) else (gangsawref19_Name.j0 k a0 (decide ((bt a0 0) > 122)))) else (none)))) = some r:=h;clear h;have HC2:=am H;clear H
 go_enter Try.func33,Try.ntmps33
 go_upto_region 1 with (fail)
 go_cut [21] (fun v21 wc=>∃ (kq : Nat) (x21_1 : Bool),v21 = .bool x21_1 ∧ Aside0 (gangsawref19_Name.j0 kq a0 x21_1 = some r) ∧ Aside0 (kq ≤ k) ∧ Drawn0 w wc)
 case first =>
  have H:=HC2.out;clear HC2;by_cases c3 : (a0.size : Int) < 1
  ·rw [if_pos c3] at H;have c3b0 : decide ((a0.size : Int) < 1) = true:=decide_eq_true c3;have c3b1 : decide (a0.size < 1) = true:=decide_eq_true (by omega);clear c3;(first|rw [c3b0]|(simp only [i64_w,i32_w];rw [c3b0])|skip);have H':=am H;clear H
   go_wp2
   go_meet
   case rel=>exact ⟨_,(true),(by first|rfl|(simp;done)|(simp [*];done)),H',⟨by first|omega|exact Nat.le_refl _⟩,by repeat (first|exact Drawn0.refl _|apply Drawn0.step)⟩
  ·rw [if_neg c3] at H;have c3b0 : decide ((a0.size : Int) < 1) = false:=decide_eq_false c3;have c3b1 : decide (a0.size < 1) = false:=decide_eq_false (by omega);clear c3;(first|rw [c3b0]|(simp only [i64_w,i32_w];rw [c3b0])|skip)
   by_cases c4 : (a0.size : Int) > 24
   ·rw [if_pos c4] at H;have c4b0 : decide (24 < (a0.size : Int)) = true:=decide_eq_true c4;have c4b1 : decide (24 < a0.size) = true:=decide_eq_true (by omega);clear c4;have H':=am H;clear H
    go_wp2
    go_meet
    case rel=>exact ⟨_,(true),(by first|rfl|(simp;done)|(simp [*];done)),H',⟨by first|omega|exact Nat.le_refl _⟩,by repeat (first|exact Drawn0.refl _|apply Drawn0.step)⟩
   ·rw [if_neg c4] at H;have c4b0 : decide (24 < (a0.size : Int)) = false:=decide_eq_false c4;have c4b1 : decide (24 < a0.size) = false:=decide_eq_false (by omega);clear c4;by_cases c5 : 0 < (a0.size : Int)
    ·rw [if_pos c5] at H;have c5b0 : decide (0 < (a0.size : Int)) = true:=decide_eq_true c5;have c5b1 : decide (0 < a0.size) = true:=decide_eq_true (by omega);clear c5;by_cases c7 : (bt a0 0) < 97
     ·rw [if_pos c7] at H;have c7b0 : decide ((bt a0 0) < 97) = true:=decide_eq_true c7;clear c7;have H':=am H;clear H
      have p6 : 0 ≤ (0 : Int):=(by omega)
      have q6 : 0 < a0.size:=(by have : (0 : Int) < (a0.size : Int):=of_decide_eq_true (by first|(with_reducible assumption)|assumption);omega)
      have hx6 : ∀ h : 0 < a0.size,((a0[0]'h).toNat : Int) = bt a0 0:=bt_at a0 0;clear p6;have qi6 : (0 < (a0.size : Int)) = True:=eq_true (of_decide_eq_true (by first|(with_reducible assumption)|assumption));replace q6:=eq_true q6
      go_wp2
      go_meet
      case rel=>exact ⟨_,(true),(by first|rfl|(simp;done)|(simp [*];done)),H',⟨by first|omega|exact Nat.le_refl _⟩,by repeat (first|exact Drawn0.refl _|apply Drawn0.step)⟩
     ·rw [if_neg c7] at H;have c7b0 : decide ((bt a0 0) < 97) = false:=decide_eq_false c7;clear c7;have H':=am H;clear H
      have p6 : 0 ≤ (0 : Int):=(by omega)
      have q6 : 0 < a0.size:=(by have : (0 : Int) < (a0.size : Int):=of_decide_eq_true (by first|(with_reducible assumption)|assumption);omega)
      have hx6 : ∀ h : 0 < a0.size,((a0[0]'h).toNat : Int) = bt a0 0:=bt_at a0 0;clear p6;have qi6 : (0 < (a0.size : Int)) = True:=eq_true (of_decide_eq_true (by first|(with_reducible assumption)|assumption));replace q6:=eq_true q6
      have p8 : 0 ≤ (0 : Int):=(by omega)
      have q8 : 0 < a0.size:=(by have : (0 : Int) < (a0.size : Int):=of_decide_eq_true (by first|(with_reducible assumption)|assumption);omega)
      have hx8 : ∀ h : 0 < a0.size,((a0[0]'h).toNat : Int) = bt a0 0:=bt_at a0 0;clear p8;have qi8 : (0 < (a0.size : Int)) = True:=eq_true (of_decide_eq_true (by first|(with_reducible assumption)|assumption));replace q8:=eq_true q8
      go_wp2
      go_meet
      case rel=>exact ⟨_,(decide ((bt a0 0) > 122)),(by first|rfl|(simp;done)|(simp [*];done)),H',⟨by first|omega|exact Nat.le_refl _⟩,by repeat (first|exact Drawn0.refl _|apply Drawn0.step)⟩
    (rw [if_neg c5] at H;exact absurd H (by simp))
 case rest =>
  clear HC2
  try clear p2
  try clear c3
  try clear c3b0
  try clear c3b1
  try clear c4
  try clear c4b0
  try clear c4b1
  try clear c5
  try clear c5b0
  try clear c5b1
  try clear p6
  try clear q6
  try clear hx6
  try clear qi6
  try clear c7
  try clear c7b0
  try clear p8
  try clear q8
  try clear hx8
  try clear qi8
  try clear p6
  try clear p8
  try clear q6
  try clear q8
  obtain ⟨kq,x21_1,rfl,HA,HJ1,⟨mc1,rfl⟩⟩ := hcut
  cases kq with
  | zero=>exact absurd HA.out (by simp [gangsawref19_Name.j0])
  | succ kj1 =>
   have H:=HA.out;clear HA;simp only [gangsawref19_Name.j0] at H;by_cases c9 : x21_1 = true
   ·subst c9
    have H1 : (some false) = some r:=by rw [if_pos rfl] at H;exact H
    clear H;have H:=H1;clear H1;obtain rfl:=Option.some.inj H
    go_wp2
    go_ret
    exact ⟨by first|rfl|(simp;done)|(simp [*];done),by repeat (first|exact Drawn0.refl _|apply Drawn0.step)⟩
   ·replace c9:=Bool.eq_false_iff.mpr c9;subst c9
    have H1 : (gangsawref19_Name.l0 kj1 a0 0) = some r:=by rw [if_neg (show ¬ (false = true) by decide)] at H;exact H
    clear H;have H:=H1;clear H1;have H':=am H;clear H
    go_wp2
    go_loopg [3] kj1 (fun kq v3 w'=>∃ (x3_2 : Int),v3 = .int .i64 x3_2 ∧ Aside0 (gangsawref19_Name.l0 kq a0 x3_2 = some r) ∧ Aside0 (kq ≤ kj1) ∧ Drawn0 w w')
    case atStart=>exact ⟨(0),(by first|rfl|(simp;done)|(simp [*];done)),H',⟨Nat.le_refl _⟩,by repeat (first|exact Drawn0.refl _|apply Drawn0.step)⟩
    case round =>
     clear H'
     try clear c1
     try clear p2
     try clear c3
     try clear c3b0
     try clear c3b1
     try clear c4
     try clear c4b0
     try clear c4b1
     try clear c5
     try clear c5b0
     try clear c5b1
     try clear p6
     try clear q6
     try clear hx6
     try clear qi6
     try clear c7
     try clear c7b0
     try clear p8
     try clear q8
     try clear hx8
     try clear qi8
     try clear c9
     try clear p2
     try clear p6
     try clear p8
     try clear q6
     try clear q8
     obtain ⟨x3_2,rfl,HA,HK2,⟨m2,rfl⟩⟩ := hrel
     cases gk with
     | zero=>exact absurd HA.out (by simp [gangsawref19_Name.l0])
     | succ k2 =>
      have H:=HA.out;clear HA;simp only [gangsawref19_Name.l0] at H;by_cases c10 : x3_2 < (a0.size : Int)
      ·rw [if_pos c10] at H;have c10b0 : decide (x3_2 < (a0.size : Int)) = true:=decide_eq_true c10;clear c10;by_cases c11 : 0 ≤ x3_2
       ·rw [if_pos c11] at H;have c11b0 : decide (0 ≤ x3_2) = true:=decide_eq_true c11;clear c11;by_cases c13 : (bt a0 x3_2) < 97
        ·rw [if_pos c13] at H;have c13b0 : decide ((bt a0 x3_2) < 97) = true:=decide_eq_true c13;clear c13;by_cases c15 : (bt a0 x3_2) < 48
         ·rw [if_pos c15] at H;have c15b0 : decide ((bt a0 x3_2) < 48) = true:=decide_eq_true c15;clear c15;by_cases c17 : (bt a0 x3_2) = 95
          ·rw [if_pos c17] at H;have c17b0 : ((bt a0 x3_2) == 95) = true:=beq_iff_eq.mpr c17;have c17b1 : ((bt a0 x3_2) != 95) = false:=bne_eq_false_iff_eq.mpr c17;clear c17;have H':=am H;clear H;have p12 : 0 ≤ (x3_2 : Int):=of_decide_eq_true (by first|(with_reducible assumption)|assumption);have q12 : x3_2 < (a0.size : Int):=of_decide_eq_true (by first|(with_reducible assumption)|assumption);have hx12:=bt_at a0 x3_2;replace p12:=eq_true p12;replace q12:=eq_true q12;have p14 : 0 ≤ (x3_2 : Int):=of_decide_eq_true (by first|(with_reducible assumption)|assumption);have q14 : x3_2 < (a0.size : Int):=of_decide_eq_true (by first|(with_reducible assumption)|assumption);have hx14:=bt_at a0 x3_2;replace p14:=eq_true p14;replace q14:=eq_true q14;have p16 : 0 ≤ (x3_2 : Int):=of_decide_eq_true (by first|(with_reducible assumption)|assumption);have q16 : x3_2 < (a0.size : Int):=of_decide_eq_true (by first|(with_reducible assumption)|assumption);have hx16:=bt_at a0 x3_2;replace p16:=eq_true p16;replace q16:=eq_true q16
           go_wp2
           go_roundg k2
           case measure=>have:=HJ1.out;have:=HK2.out;omega
           case rel=>exact ⟨(wrap64 (x3_2 + 1)),(by first|rfl|(simp;done)|(simp [*];done)),H',⟨by have:=HJ1.out;have:=HK2.out;omega⟩,by repeat (first|exact Drawn0.refl _|apply Drawn0.step)⟩
          ·rw [if_neg c17] at H;have c17b0 : ((bt a0 x3_2) == 95) = false:=beq_eq_false_iff_ne.mpr c17;have c17b1 : ((bt a0 x3_2) != 95) = true:=bne_iff_ne.mpr c17;obtain rfl:=Option.some.inj H;have p12 : 0 ≤ (x3_2 : Int):=of_decide_eq_true (by first|(with_reducible assumption)|assumption);have q12 : x3_2 < (a0.size : Int):=of_decide_eq_true (by first|(with_reducible assumption)|assumption);have hx12:=bt_at a0 x3_2;replace p12:=eq_true p12;replace q12:=eq_true q12;have p14 : 0 ≤ (x3_2 : Int):=of_decide_eq_true (by first|(with_reducible assumption)|assumption);have q14 : x3_2 < (a0.size : Int):=of_decide_eq_true (by first|(with_reducible assumption)|assumption);have hx14:=bt_at a0 x3_2;replace p14:=eq_true p14;replace q14:=eq_true q14;have p16 : 0 ≤ (x3_2 : Int):=of_decide_eq_true (by first|(with_reducible assumption)|assumption);have q16 : x3_2 < (a0.size : Int):=of_decide_eq_true (by first|(with_reducible assumption)|assumption);have hx16:=bt_at a0 x3_2;replace p16:=eq_true p16;replace q16:=eq_true q16
           go_wp2
           go_ret
           exact ⟨by first|rfl|(simp;done)|(simp [*];done),by repeat (first|exact Drawn0.refl _|apply Drawn0.step)⟩
         ·rw [if_neg c15] at H;have c15b0 : decide ((bt a0 x3_2) < 48) = false:=decide_eq_false c15;clear c15;by_cases c19 : (bt a0 x3_2) > 57
          ·rw [if_pos c19] at H;have c19b0 : decide (57 < (bt a0 x3_2)) = true:=decide_eq_true c19;clear c19;by_cases c21 : (bt a0 x3_2) = 95
           ·rw [if_pos c21] at H;have c21b0 : ((bt a0 x3_2) == 95) = true:=beq_iff_eq.mpr c21;have c21b1 : ((bt a0 x3_2) != 95) = false:=bne_eq_false_iff_eq.mpr c21;clear c21;have H':=am H;clear H;have p12 : 0 ≤ (x3_2 : Int):=of_decide_eq_true (by first|(with_reducible assumption)|assumption);have q12 : x3_2 < (a0.size : Int):=of_decide_eq_true (by first|(with_reducible assumption)|assumption);have hx12:=bt_at a0 x3_2;replace p12:=eq_true p12;replace q12:=eq_true q12;have p14 : 0 ≤ (x3_2 : Int):=of_decide_eq_true (by first|(with_reducible assumption)|assumption);have q14 : x3_2 < (a0.size : Int):=of_decide_eq_true (by first|(with_reducible assumption)|assumption);have hx14:=bt_at a0 x3_2;replace p14:=eq_true p14;replace q14:=eq_true q14;have p18 : 0 ≤ (x3_2 : Int):=of_decide_eq_true (by first|(with_reducible assumption)|assumption);have q18 : x3_2 < (a0.size : Int):=of_decide_eq_true (by first|(with_reducible assumption)|assumption);have hx18:=bt_at a0 x3_2;replace p18:=eq_true p18;replace q18:=eq_true q18;have p20 : 0 ≤ (x3_2 : Int):=of_decide_eq_true (by first|(with_reducible assumption)|assumption);have q20 : x3_2 < (a0.size : Int):=of_decide_eq_true (by first|(with_reducible assumption)|assumption);have hx20:=bt_at a0 x3_2;replace p20:=eq_true p20;replace q20:=eq_true q20
            go_wp2
            go_roundg k2
            case measure=>have:=HJ1.out;have:=HK2.out;omega
            case rel=>exact ⟨(wrap64 (x3_2 + 1)),(by first|rfl|(simp;done)|(simp [*];done)),H',⟨by have:=HJ1.out;have:=HK2.out;omega⟩,by repeat (first|exact Drawn0.refl _|apply Drawn0.step)⟩
           ·rw [if_neg c21] at H;have c21b0 : ((bt a0 x3_2) == 95) = false:=beq_eq_false_iff_ne.mpr c21;have c21b1 : ((bt a0 x3_2) != 95) = true:=bne_iff_ne.mpr c21;obtain rfl:=Option.some.inj H;have p12 : 0 ≤ (x3_2 : Int):=of_decide_eq_true (by first|(with_reducible assumption)|assumption);have q12 : x3_2 < (a0.size : Int):=of_decide_eq_true (by first|(with_reducible assumption)|assumption);have hx12:=bt_at a0 x3_2;replace p12:=eq_true p12;replace q12:=eq_true q12;have p14 : 0 ≤ (x3_2 : Int):=of_decide_eq_true (by first|(with_reducible assumption)|assumption);have q14 : x3_2 < (a0.size : Int):=of_decide_eq_true (by first|(with_reducible assumption)|assumption);have hx14:=bt_at a0 x3_2;replace p14:=eq_true p14;replace q14:=eq_true q14;have p18 : 0 ≤ (x3_2 : Int):=of_decide_eq_true (by first|(with_reducible assumption)|assumption);have q18 : x3_2 < (a0.size : Int):=of_decide_eq_true (by first|(with_reducible assumption)|assumption);have hx18:=bt_at a0 x3_2;replace p18:=eq_true p18;replace q18:=eq_true q18;have p20 : 0 ≤ (x3_2 : Int):=of_decide_eq_true (by first|(with_reducible assumption)|assumption);have q20 : x3_2 < (a0.size : Int):=of_decide_eq_true (by first|(with_reducible assumption)|assumption);have hx20:=bt_at a0 x3_2;replace p20:=eq_true p20;replace q20:=eq_true q20
            go_wp2
            go_ret
            exact ⟨by first|rfl|(simp;done)|(simp [*];done),by repeat (first|exact Drawn0.refl _|apply Drawn0.step)⟩
          ·rw [if_neg c19] at H;have c19b0 : decide (57 < (bt a0 x3_2)) = false:=decide_eq_false c19;clear c19;have H':=am H;clear H;have p12 : 0 ≤ (x3_2 : Int):=of_decide_eq_true (by first|(with_reducible assumption)|assumption);have q12 : x3_2 < (a0.size : Int):=of_decide_eq_true (by first|(with_reducible assumption)|assumption);have hx12:=bt_at a0 x3_2;replace p12:=eq_true p12;replace q12:=eq_true q12;have p14 : 0 ≤ (x3_2 : Int):=of_decide_eq_true (by first|(with_reducible assumption)|assumption);have q14 : x3_2 < (a0.size : Int):=of_decide_eq_true (by first|(with_reducible assumption)|assumption);have hx14:=bt_at a0 x3_2;replace p14:=eq_true p14;replace q14:=eq_true q14;have p18 : 0 ≤ (x3_2 : Int):=of_decide_eq_true (by first|(with_reducible assumption)|assumption);have q18 : x3_2 < (a0.size : Int):=of_decide_eq_true (by first|(with_reducible assumption)|assumption);have hx18:=bt_at a0 x3_2;replace p18:=eq_true p18;replace q18:=eq_true q18
           go_wp2
           go_roundg k2
           case measure=>have:=HJ1.out;have:=HK2.out;omega
           case rel=>exact ⟨(wrap64 (x3_2 + 1)),(by first|rfl|(simp;done)|(simp [*];done)),H',⟨by have:=HJ1.out;have:=HK2.out;omega⟩,by repeat (first|exact Drawn0.refl _|apply Drawn0.step)⟩
        ·rw [if_neg c13] at H;have c13b0 : decide ((bt a0 x3_2) < 97) = false:=decide_eq_false c13;clear c13;by_cases c23 : (bt a0 x3_2) > 122
         ·rw [if_pos c23] at H;have c23b0 : decide (122 < (bt a0 x3_2)) = true:=decide_eq_true c23;clear c23;by_cases c25 : (bt a0 x3_2) < 48
          ·rw [if_pos c25] at H;have c25b0 : decide ((bt a0 x3_2) < 48) = true:=decide_eq_true c25;clear c25;by_cases c27 : (bt a0 x3_2) = 95
           ·rw [if_pos c27] at H;have c27b0 : ((bt a0 x3_2) == 95) = true:=beq_iff_eq.mpr c27;have c27b1 : ((bt a0 x3_2) != 95) = false:=bne_eq_false_iff_eq.mpr c27;clear c27;have H':=am H;clear H;have p12 : 0 ≤ (x3_2 : Int):=of_decide_eq_true (by first|(with_reducible assumption)|assumption);have q12 : x3_2 < (a0.size : Int):=of_decide_eq_true (by first|(with_reducible assumption)|assumption);have hx12:=bt_at a0 x3_2;replace p12:=eq_true p12;replace q12:=eq_true q12;have p22 : 0 ≤ (x3_2 : Int):=of_decide_eq_true (by first|(with_reducible assumption)|assumption);have q22 : x3_2 < (a0.size : Int):=of_decide_eq_true (by first|(with_reducible assumption)|assumption);have hx22:=bt_at a0 x3_2;replace p22:=eq_true p22;replace q22:=eq_true q22;have p24 : 0 ≤ (x3_2 : Int):=of_decide_eq_true (by first|(with_reducible assumption)|assumption);have q24 : x3_2 < (a0.size : Int):=of_decide_eq_true (by first|(with_reducible assumption)|assumption);have hx24:=bt_at a0 x3_2;replace p24:=eq_true p24;replace q24:=eq_true q24;have p26 : 0 ≤ (x3_2 : Int):=of_decide_eq_true (by first|(with_reducible assumption)|assumption);have q26 : x3_2 < (a0.size : Int):=of_decide_eq_true (by first|(with_reducible assumption)|assumption);have hx26:=bt_at a0 x3_2;replace p26:=eq_true p26;replace q26:=eq_true q26
            go_wp2
            go_roundg k2
            case measure=>have:=HJ1.out;have:=HK2.out;omega
            case rel=>exact ⟨(wrap64 (x3_2 + 1)),(by first|rfl|(simp;done)|(simp [*];done)),H',⟨by have:=HJ1.out;have:=HK2.out;omega⟩,by repeat (first|exact Drawn0.refl _|apply Drawn0.step)⟩
           ·rw [if_neg c27] at H;have c27b0 : ((bt a0 x3_2) == 95) = false:=beq_eq_false_iff_ne.mpr c27;have c27b1 : ((bt a0 x3_2) != 95) = true:=bne_iff_ne.mpr c27;obtain rfl:=Option.some.inj H;have p12 : 0 ≤ (x3_2 : Int):=of_decide_eq_true (by first|(with_reducible assumption)|assumption);have q12 : x3_2 < (a0.size : Int):=of_decide_eq_true (by first|(with_reducible assumption)|assumption);have hx12:=bt_at a0 x3_2;replace p12:=eq_true p12;replace q12:=eq_true q12;have p22 : 0 ≤ (x3_2 : Int):=of_decide_eq_true (by first|(with_reducible assumption)|assumption);have q22 : x3_2 < (a0.size : Int):=of_decide_eq_true (by first|(with_reducible assumption)|assumption);have hx22:=bt_at a0 x3_2;replace p22:=eq_true p22;replace q22:=eq_true q22;have p24 : 0 ≤ (x3_2 : Int):=of_decide_eq_true (by first|(with_reducible assumption)|assumption);have q24 : x3_2 < (a0.size : Int):=of_decide_eq_true (by first|(with_reducible assumption)|assumption);have hx24:=bt_at a0 x3_2;replace p24:=eq_true p24;replace q24:=eq_true q24;have p26 : 0 ≤ (x3_2 : Int):=of_decide_eq_true (by first|(with_reducible assumption)|assumption);have q26 : x3_2 < (a0.size : Int):=of_decide_eq_true (by first|(with_reducible assumption)|assumption);have hx26:=bt_at a0 x3_2;replace p26:=eq_true p26;replace q26:=eq_true q26
            go_wp2
            go_ret
            exact ⟨by first|rfl|(simp;done)|(simp [*];done),by repeat (first|exact Drawn0.refl _|apply Drawn0.step)⟩
          ·rw [if_neg c25] at H;have c25b0 : decide ((bt a0 x3_2) < 48) = false:=decide_eq_false c25;clear c25;by_cases c29 : (bt a0 x3_2) > 57
           ·rw [if_pos c29] at H;have c29b0 : decide (57 < (bt a0 x3_2)) = true:=decide_eq_true c29;clear c29;by_cases c31 : (bt a0 x3_2) = 95
            ·rw [if_pos c31] at H;have c31b0 : ((bt a0 x3_2) == 95) = true:=beq_iff_eq.mpr c31;have c31b1 : ((bt a0 x3_2) != 95) = false:=bne_eq_false_iff_eq.mpr c31;clear c31;have H':=am H;clear H;have p12 : 0 ≤ (x3_2 : Int):=of_decide_eq_true (by first|(with_reducible assumption)|assumption);have q12 : x3_2 < (a0.size : Int):=of_decide_eq_true (by first|(with_reducible assumption)|assumption);have hx12:=bt_at a0 x3_2;replace p12:=eq_true p12;replace q12:=eq_true q12;have p22 : 0 ≤ (x3_2 : Int):=of_decide_eq_true (by first|(with_reducible assumption)|assumption);have q22 : x3_2 < (a0.size : Int):=of_decide_eq_true (by first|(with_reducible assumption)|assumption);have hx22:=bt_at a0 x3_2;replace p22:=eq_true p22;replace q22:=eq_true q22;have p24 : 0 ≤ (x3_2 : Int):=of_decide_eq_true (by first|(with_reducible assumption)|assumption);have q24 : x3_2 < (a0.size : Int):=of_decide_eq_true (by first|(with_reducible assumption)|assumption);have hx24:=bt_at a0 x3_2;replace p24:=eq_true p24;replace q24:=eq_true q24;have p28 : 0 ≤ (x3_2 : Int):=of_decide_eq_true (by first|(with_reducible assumption)|assumption);have q28 : x3_2 < (a0.size : Int):=of_decide_eq_true (by first|(with_reducible assumption)|assumption);have hx28:=bt_at a0 x3_2;replace p28:=eq_true p28;replace q28:=eq_true q28;have p30 : 0 ≤ (x3_2 : Int):=of_decide_eq_true (by first|(with_reducible assumption)|assumption);have q30 : x3_2 < (a0.size : Int):=of_decide_eq_true (by first|(with_reducible assumption)|assumption);have hx30:=bt_at a0 x3_2;replace p30:=eq_true p30;replace q30:=eq_true q30
             go_wp2
             go_roundg k2
             case measure=>have:=HJ1.out;have:=HK2.out;omega
             case rel=>exact ⟨(wrap64 (x3_2 + 1)),(by first|rfl|(simp;done)|(simp [*];done)),H',⟨by have:=HJ1.out;have:=HK2.out;omega⟩,by repeat (first|exact Drawn0.refl _|apply Drawn0.step)⟩
            ·rw [if_neg c31] at H;have c31b0 : ((bt a0 x3_2) == 95) = false:=beq_eq_false_iff_ne.mpr c31;have c31b1 : ((bt a0 x3_2) != 95) = true:=bne_iff_ne.mpr c31;obtain rfl:=Option.some.inj H;have p12 : 0 ≤ (x3_2 : Int):=of_decide_eq_true (by first|(with_reducible assumption)|assumption);have q12 : x3_2 < (a0.size : Int):=of_decide_eq_true (by first|(with_reducible assumption)|assumption);have hx12:=bt_at a0 x3_2;replace p12:=eq_true p12;replace q12:=eq_true q12;have p22 : 0 ≤ (x3_2 : Int):=of_decide_eq_true (by first|(with_reducible assumption)|assumption);have q22 : x3_2 < (a0.size : Int):=of_decide_eq_true (by first|(with_reducible assumption)|assumption);have hx22:=bt_at a0 x3_2;replace p22:=eq_true p22;replace q22:=eq_true q22;have p24 : 0 ≤ (x3_2 : Int):=of_decide_eq_true (by first|(with_reducible assumption)|assumption);have q24 : x3_2 < (a0.size : Int):=of_decide_eq_true (by first|(with_reducible assumption)|assumption);have hx24:=bt_at a0 x3_2;replace p24:=eq_true p24;replace q24:=eq_true q24;have p28 : 0 ≤ (x3_2 : Int):=of_decide_eq_true (by first|(with_reducible assumption)|assumption);have q28 : x3_2 < (a0.size : Int):=of_decide_eq_true (by first|(with_reducible assumption)|assumption);have hx28:=bt_at a0 x3_2;replace p28:=eq_true p28;replace q28:=eq_true q28;have p30 : 0 ≤ (x3_2 : Int):=of_decide_eq_true (by first|(with_reducible assumption)|assumption);have q30 : x3_2 < (a0.size : Int):=of_decide_eq_true (by first|(with_reducible assumption)|assumption);have hx30:=bt_at a0 x3_2;replace p30:=eq_true p30;replace q30:=eq_true q30
             go_wp2
             go_ret
             exact ⟨by first|rfl|(simp;done)|(simp [*];done),by repeat (first|exact Drawn0.refl _|apply Drawn0.step)⟩
           ·rw [if_neg c29] at H;have c29b0 : decide (57 < (bt a0 x3_2)) = false:=decide_eq_false c29;clear c29;have H':=am H;clear H;have p12 : 0 ≤ (x3_2 : Int):=of_decide_eq_true (by first|(with_reducible assumption)|assumption);have q12 : x3_2 < (a0.size : Int):=of_decide_eq_true (by first|(with_reducible assumption)|assumption);have hx12:=bt_at a0 x3_2;replace p12:=eq_true p12;replace q12:=eq_true q12;have p22 : 0 ≤ (x3_2 : Int):=of_decide_eq_true (by first|(with_reducible assumption)|assumption);have q22 : x3_2 < (a0.size : Int):=of_decide_eq_true (by first|(with_reducible assumption)|assumption);have hx22:=bt_at a0 x3_2;replace p22:=eq_true p22;replace q22:=eq_true q22;have p24 : 0 ≤ (x3_2 : Int):=of_decide_eq_true (by first|(with_reducible assumption)|assumption);have q24 : x3_2 < (a0.size : Int):=of_decide_eq_true (by first|(with_reducible assumption)|assumption);have hx24:=bt_at a0 x3_2;replace p24:=eq_true p24;replace q24:=eq_true q24;have p28 : 0 ≤ (x3_2 : Int):=of_decide_eq_true (by first|(with_reducible assumption)|assumption);have q28 : x3_2 < (a0.size : Int):=of_decide_eq_true (by first|(with_reducible assumption)|assumption);have hx28:=bt_at a0 x3_2;replace p28:=eq_true p28;replace q28:=eq_true q28
            go_wp2
            go_roundg k2
            case measure=>have:=HJ1.out;have:=HK2.out;omega
            case rel=>exact ⟨(wrap64 (x3_2 + 1)),(by first|rfl|(simp;done)|(simp [*];done)),H',⟨by have:=HJ1.out;have:=HK2.out;omega⟩,by repeat (first|exact Drawn0.refl _|apply Drawn0.step)⟩
         ·rw [if_neg c23] at H;have c23b0 : decide (122 < (bt a0 x3_2)) = false:=decide_eq_false c23;clear c23;have H':=am H;clear H;have p12 : 0 ≤ (x3_2 : Int):=of_decide_eq_true (by first|(with_reducible assumption)|assumption);have q12 : x3_2 < (a0.size : Int):=of_decide_eq_true (by first|(with_reducible assumption)|assumption);have hx12:=bt_at a0 x3_2;replace p12:=eq_true p12;replace q12:=eq_true q12;have p22 : 0 ≤ (x3_2 : Int):=of_decide_eq_true (by first|(with_reducible assumption)|assumption);have q22 : x3_2 < (a0.size : Int):=of_decide_eq_true (by first|(with_reducible assumption)|assumption);have hx22:=bt_at a0 x3_2;replace p22:=eq_true p22;replace q22:=eq_true q22
          go_wp2
          go_roundg k2
          case measure=>have:=HJ1.out;have:=HK2.out;omega
          case rel=>exact ⟨(wrap64 (x3_2 + 1)),(by first|rfl|(simp;done)|(simp [*];done)),H',⟨by have:=HJ1.out;have:=HK2.out;omega⟩,by repeat (first|exact Drawn0.refl _|apply Drawn0.step)⟩
       (rw [if_neg c11] at H;exact absurd H (by simp))
      ·rw [if_neg c10] at H;have c10b0 : decide (x3_2 < (a0.size : Int)) = false:=decide_eq_false c10;clear c10;obtain rfl:=Option.some.inj H
       go_wp2
       go_ret
       exact ⟨by first|rfl|(simp;done)|(simp [*];done),by repeat (first|exact Drawn0.refl _|apply Drawn0.step)⟩
def gangsawref03_in.f (a0 : Int) : Option (Bool):=if a0 ≥ (-1000000) then (some (decide (a0 ≤ 1000000))) else (some false)
set_option maxHeartbeats 8000000 in
set_option maxRecDepth 100000 in
theorem gangsawref03_in.calls (a0 : Int) (r : Bool) (w : World) (h : gangsawref03_in.f a0 = some r) :
  Calls Try.prog 51 #[.int .i64 a0] w fun e w'=>e = .returned (.bool r) ∧ Drawn0 w w':=by
 have H : (if a0 ≥ (-1000000) then (some (decide (a0 ≤ 1000000))) else (some false)) = some r:=h;clear h;by_cases c2 : a0 ≥ (-1000000)
 ·rw [if_pos c2] at H;have c2b0 : decide ((-1000000) ≤ a0) = true:=decide_eq_true c2;clear c2;obtain rfl:=Option.some.inj H
  go_enter Try.func51,Try.ntmps51
  go_wp2
  go_ret
  exact ⟨by first|rfl|(simp;done)|(simp [*];done),by repeat (first|exact Drawn0.refl _|apply Drawn0.step)⟩
 ·rw [if_neg c2] at H;have c2b0 : decide ((-1000000) ≤ a0) = false:=decide_eq_false c2;clear c2;obtain rfl:=Option.some.inj H
  go_enter Try.func51,Try.ntmps51
  go_wp2
  go_ret
  exact ⟨by first|rfl|(simp;done)|(simp [*];done),by repeat (first|exact Drawn0.refl _|apply Drawn0.step)⟩
def gangsawref03_InPoint.f (a0_0 : Int) (a0_1 : Int) : Option (Bool):=(gangsawref03_in.f a0_0).bind fun t317=>(if t317 = true then ((gangsawref03_in.f a0_1).bind fun t318=>(some t318)) else (some false))
set_option maxHeartbeats 8000000 in
set_option maxRecDepth 100000 in
theorem gangsawref03_InPoint.calls (a0_0 : Int) (a0_1 : Int) (r : Bool) (w : World) (h : gangsawref03_InPoint.f a0_0 a0_1 = some r) :
  Calls Try.prog 34 #[.agg #[.int .i64 a0_0,.int .i64 a0_1]] w fun e w'=>e = .returned (.bool r) ∧ Below w.heap.size w w':=by
 have hu31:=Try.underlying31;have HB:=am (Below.refl w.heap.size w);have H : ((gangsawref03_in.f a0_0).bind fun t317=>(if t317 = true then ((gangsawref03_in.f a0_1).bind fun t318=>(some t318)) else (some false))) = some r:=h;clear h;replace H:=Option.bind_eq_some_iff.mp H;obtain ⟨t317,A20,H⟩ := H;replace H : (if t317 = true then ((gangsawref03_in.f a0_1).bind fun t318=>(some t318)) else (some false)) = some r:=H;have A2:=am A20;clear A20;by_cases c3 : t317 = true
 ·subst c3
  have H1 : ((gangsawref03_in.f a0_1).bind fun t318=>(some t318)) = some r:=by rw [if_pos rfl] at H;exact H
  clear H;have H:=H1;clear H1;replace H:=Option.bind_eq_some_iff.mp H;obtain ⟨t318,A40,H⟩ := H;replace H : (some t318) = some r:=H;have A4:=am A40;clear A40;obtain rfl:=Option.some.inj H
  go_enter Try.func34,Try.ntmps34
  go_wp2_with (first|((with_reducible refine gate_dst (N:=1) rfl ?_);refine box_event ?hg (N:=1) ?hd (cs:=#[.int .i64 a0_0,.int .i64 a0_1]) (t:=31) ?hr ?_;(case hd=>rfl);(case hg=>rfl);(case hr=>first|(go_simp;done)|(go_simp;rfl));intro gb316 hg w5 hbox hb;have BK316:=am hbox;have GW316:=bza HB hg;have GE316:=bza HB hg;replace HB:=bsa HB hb;clear hb hbox hg;obtain ⟨hcz6_0,hcz6_1,hfz6_0,hfz6_1⟩ := c2_ BK316.out)|((with_reducible refine gate_callee (f:=51) rfl ?_);refine goesL_ (some 5) rfl rfl Try.func51 (by kernel_rfl) rfl #[.int .i64 a0_0] rfl (by (try simp only [mT,mC,mN]);first|done|rfl|(simp only [lDr,lTk];rfl)) ?_;(with_reducible refine (gangsawref03_in.calls a0_0 true _ A2.out).mono ?_);rintro e w' ⟨rfl,⟨nd,rfl⟩⟩;refine ⟨_,rfl, ?_⟩)|(go_at_call 51;(with_reducible refine (gangsawref03_in.calls a0_1 t318 _ A4.out).mono ?_);rintro e w' ⟨rfl,⟨nd,rfl⟩⟩))
  go_ret
  exact ⟨by first|rfl|(simp [errW_none,errW_some] <;> rfl)|(simp [*,errW_none,errW_some] <;> rfl),by repeat (first|(with_reducible first|exact HB.out|apply lA|apply lN|apply lD|refine lS ?_ GE316.out)|exact HB.out)⟩
 ·replace c3:=Bool.eq_false_iff.mpr c3;subst c3
  have H1 : (some false) = some r:=by rw [if_neg (show ¬ (false = true) by decide)] at H;exact H
  clear H;have H:=H1;clear H1;obtain rfl:=Option.some.inj H
  go_enter Try.func34,Try.ntmps34
  go_wp2_with (first|((with_reducible refine gate_dst (N:=1) rfl ?_);refine box_event ?hg (N:=1) ?hd (cs:=#[.int .i64 a0_0,.int .i64 a0_1]) (t:=31) ?hr ?_;(case hd=>rfl);(case hg=>rfl);(case hr=>first|(go_simp;done)|(go_simp;rfl));intro gb316 hg w7 hbox hb;have BK316:=am hbox;have GW316:=bza HB hg;have GE316:=bza HB hg;replace HB:=bsa HB hb;clear hb hbox hg;obtain ⟨hcz8_0,hcz8_1,hfz8_0,hfz8_1⟩ := c2_ BK316.out)|((with_reducible refine gate_callee (f:=51) rfl ?_);refine goesL_ (some 5) rfl rfl Try.func51 (by kernel_rfl) rfl #[.int .i64 a0_0] rfl (by (try simp only [mT,mC,mN]);first|done|rfl|(simp only [lDr,lTk];rfl)) ?_;(with_reducible refine (gangsawref03_in.calls a0_0 false _ A2.out).mono ?_);rintro e w' ⟨rfl,⟨nd,rfl⟩⟩;refine ⟨_,rfl, ?_⟩))
  go_ret
  exact ⟨by first|rfl|(simp [errW_none,errW_some] <;> rfl)|(simp [*,errW_none,errW_some] <;> rfl),by repeat (first|(with_reducible first|exact HB.out|apply lA|apply lN|apply lD|refine lS ?_ GE316.out)|exact HB.out)⟩
def gangsawref03_Turn.f (a0_0 : Int) (a0_1 : Int) (a1_0 : Int) (a1_1 : Int) (a2_0 : Int) (a2_1 : Int) : Option (Int):=if (wrap64 ((wrap64 ((wrap64 (a1_0 - a0_0)) * (wrap64 (a2_1 - a0_1)))) - (wrap64 ((wrap64 (a1_1 - a0_1)) * (wrap64 (a2_0 - a0_0)))))) > 0 then (some 1) else (if (wrap64 ((wrap64 ((wrap64 (a1_0 - a0_0)) * (wrap64 (a2_1 - a0_1)))) - (wrap64 ((wrap64 (a1_1 - a0_1)) * (wrap64 (a2_0 - a0_0)))))) < 0 then (some (-1)) else (some 0))
set_option maxHeartbeats 8000000 in
set_option maxRecDepth 100000 in
theorem gangsawref03_Turn.calls (a0_0 : Int) (a0_1 : Int) (a1_0 : Int) (a1_1 : Int) (a2_0 : Int) (a2_1 : Int) (r : Int) (w : World) (h : gangsawref03_Turn.f a0_0 a0_1 a1_0 a1_1 a2_0 a2_1 = some r) :
  Calls Try.prog 75 #[.agg #[.int .i64 a0_0,.int .i64 a0_1],.agg #[.int .i64 a1_0,.int .i64 a1_1],.agg #[.int .i64 a2_0,.int .i64 a2_1]] w fun e w'=>e = .returned (.int .i64 r) ∧ Below w.heap.size w w':=by
 have hu31:=Try.underlying31;have HB:=am (Below.refl w.heap.size w);have H : (if (wrap64 ((wrap64 ((wrap64 (a1_0 - a0_0)) * (wrap64 (a2_1 - a0_1)))) - (wrap64 ((wrap64 (a1_1 - a0_1)) * (wrap64 (a2_0 - a0_0)))))) > 0 then (some 1) else (if (wrap64 ((wrap64 ((wrap64 (a1_0 - a0_0)) * (wrap64 (a2_1 - a0_1)))) - (wrap64 ((wrap64 (a1_1 - a0_1)) * (wrap64 (a2_0 - a0_0)))))) < 0 then (some (-1)) else (some 0))) = some r:=h;clear h;by_cases c4 : (wrap64 ((wrap64 ((wrap64 (a1_0 - a0_0)) * (wrap64 (a2_1 - a0_1)))) - (wrap64 ((wrap64 (a1_1 - a0_1)) * (wrap64 (a2_0 - a0_0)))))) > 0
 ·rw [if_pos c4] at H;have c4b0 : decide (0 < (wrap64 ((wrap64 ((wrap64 (a1_0 - a0_0)) * (wrap64 (a2_1 - a0_1)))) - (wrap64 ((wrap64 (a1_1 - a0_1)) * (wrap64 (a2_0 - a0_0))))))) = true:=decide_eq_true c4;clear c4;obtain rfl:=Option.some.inj H
  go_enter Try.func75,Try.ntmps75
  go_wp2_with (first|((with_reducible refine gate_dst (N:=3) rfl ?_);refine box_event ?hg (N:=3) ?hd (cs:=#[.int .i64 a0_0,.int .i64 a0_1]) (t:=31) ?hr ?_;(case hd=>rfl);(case hg=>rfl);(case hr=>first|(go_simp;done)|(go_simp;rfl));intro gb319 hg w5 hbox hb;have BK319:=am hbox;have GW319:=bza HB hg;have GE319:=bza HB hg;replace HB:=bsa HB hb;clear hb hbox hg)|((with_reducible refine gate_dst (N:=4) rfl ?_);refine box_event ?hg (N:=4) ?hd (cs:=#[.int .i64 a1_0,.int .i64 a1_1]) (t:=31) ?hr ?_;(case hd=>rfl);(case hg=>rfl);(case hr=>first|(go_simp;done)|(go_simp;rfl));intro gb320 hg w6 hbox hb;have BK320:=am hbox;have GW320:=bza HB hg;have GE320:=bza HB hg;have NB319_320:=bla BK319 hg;have NB320_319:=bga BK319 hg;replace BK319:=bba BK319 hb;replace HB:=bsa HB hb;clear hb hbox hg)|((with_reducible refine gate_dst (N:=5) rfl ?_);refine box_event ?hg (N:=5) ?hd (cs:=#[.int .i64 a2_0,.int .i64 a2_1]) (t:=31) ?hr ?_;(case hd=>rfl);(case hg=>rfl);(case hr=>first|(go_simp;done)|(go_simp;rfl));intro gb321 hg w7 hbox hb;have BK321:=am hbox;have GW321:=bza HB hg;have GE321:=bza HB hg;have NB319_321:=bla BK319 hg;have NB321_319:=bga BK319 hg;have NB320_321:=bla BK320 hg;have NB321_320:=bga BK320 hg;replace BK319:=bba BK319 hb;replace BK320:=bba BK320 hb;replace HB:=bsa HB hb;clear hb hbox hg;have hnb8:=NB320_319.out;have hnc8:=NB319_320.out;have hnb9:=NB320_321.out;have hnc9:=NB321_320.out;obtain ⟨hcz10_0,hcz10_1,hfz10_0,hfz10_1⟩ := c2_ BK320.out;have hnb11:=NB319_321.out;have hnc11:=NB321_319.out;obtain ⟨hcz12_0,hcz12_1,hfz12_0,hfz12_1⟩ := c2_ BK319.out;obtain ⟨hcz13_0,hcz13_1,hfz13_0,hfz13_1⟩ := c2_ BK321.out))
  go_ret
  exact ⟨by first|rfl|(simp [errW_none,errW_some] <;> rfl)|(simp [*,errW_none,errW_some] <;> rfl),by repeat (first|(with_reducible first|exact HB.out|apply lA|apply lN|apply lD|refine lS ?_ GE319.out|refine lS ?_ GE320.out|refine lS ?_ GE321.out)|exact HB.out)⟩
 ·rw [if_neg c4] at H;have c4b0 : decide (0 < (wrap64 ((wrap64 ((wrap64 (a1_0 - a0_0)) * (wrap64 (a2_1 - a0_1)))) - (wrap64 ((wrap64 (a1_1 - a0_1)) * (wrap64 (a2_0 - a0_0))))))) = false:=decide_eq_false c4;clear c4;by_cases c14 : (wrap64 ((wrap64 ((wrap64 (a1_0 - a0_0)) * (wrap64 (a2_1 - a0_1)))) - (wrap64 ((wrap64 (a1_1 - a0_1)) * (wrap64 (a2_0 - a0_0)))))) < 0
  ·rw [if_pos c14] at H;have c14b0 : decide ((wrap64 ((wrap64 ((wrap64 (a1_0 - a0_0)) * (wrap64 (a2_1 - a0_1)))) - (wrap64 ((wrap64 (a1_1 - a0_1)) * (wrap64 (a2_0 - a0_0)))))) < 0) = true:=decide_eq_true c14;clear c14;obtain rfl:=Option.some.inj H
   go_enter Try.func75,Try.ntmps75
   go_wp2_with (first|((with_reducible refine gate_dst (N:=3) rfl ?_);refine box_event ?hg (N:=3) ?hd (cs:=#[.int .i64 a0_0,.int .i64 a0_1]) (t:=31) ?hr ?_;(case hd=>rfl);(case hg=>rfl);(case hr=>first|(go_simp;done)|(go_simp;rfl));intro gb319 hg w15 hbox hb;have BK319:=am hbox;have GW319:=bza HB hg;have GE319:=bza HB hg;replace HB:=bsa HB hb;clear hb hbox hg)|((with_reducible refine gate_dst (N:=4) rfl ?_);refine box_event ?hg (N:=4) ?hd (cs:=#[.int .i64 a1_0,.int .i64 a1_1]) (t:=31) ?hr ?_;(case hd=>rfl);(case hg=>rfl);(case hr=>first|(go_simp;done)|(go_simp;rfl));intro gb320 hg w16 hbox hb;have BK320:=am hbox;have GW320:=bza HB hg;have GE320:=bza HB hg;have NB319_320:=bla BK319 hg;have NB320_319:=bga BK319 hg;replace BK319:=bba BK319 hb;replace HB:=bsa HB hb;clear hb hbox hg)|((with_reducible refine gate_dst (N:=5) rfl ?_);refine box_event ?hg (N:=5) ?hd (cs:=#[.int .i64 a2_0,.int .i64 a2_1]) (t:=31) ?hr ?_;(case hd=>rfl);(case hg=>rfl);(case hr=>first|(go_simp;done)|(go_simp;rfl));intro gb321 hg w17 hbox hb;have BK321:=am hbox;have GW321:=bza HB hg;have GE321:=bza HB hg;have NB319_321:=bla BK319 hg;have NB321_319:=bga BK319 hg;have NB320_321:=bla BK320 hg;have NB321_320:=bga BK320 hg;replace BK319:=bba BK319 hb;replace BK320:=bba BK320 hb;replace HB:=bsa HB hb;clear hb hbox hg;have hnb18:=NB320_319.out;have hnc18:=NB319_320.out;have hnb19:=NB320_321.out;have hnc19:=NB321_320.out;obtain ⟨hcz20_0,hcz20_1,hfz20_0,hfz20_1⟩ := c2_ BK320.out;have hnb21:=NB319_321.out;have hnc21:=NB321_319.out;obtain ⟨hcz22_0,hcz22_1,hfz22_0,hfz22_1⟩ := c2_ BK319.out;obtain ⟨hcz23_0,hcz23_1,hfz23_0,hfz23_1⟩ := c2_ BK321.out))
   go_ret
   exact ⟨by first|rfl|(simp [errW_none,errW_some] <;> rfl)|(simp [*,errW_none,errW_some] <;> rfl),by repeat (first|(with_reducible first|exact HB.out|apply lA|apply lN|apply lD|refine lS ?_ GE319.out|refine lS ?_ GE320.out|refine lS ?_ GE321.out)|exact HB.out)⟩
  ·rw [if_neg c14] at H;have c14b0 : decide ((wrap64 ((wrap64 ((wrap64 (a1_0 - a0_0)) * (wrap64 (a2_1 - a0_1)))) - (wrap64 ((wrap64 (a1_1 - a0_1)) * (wrap64 (a2_0 - a0_0)))))) < 0) = false:=decide_eq_false c14;clear c14;obtain rfl:=Option.some.inj H
   go_enter Try.func75,Try.ntmps75
   go_wp2_with (first|((with_reducible refine gate_dst (N:=3) rfl ?_);refine box_event ?hg (N:=3) ?hd (cs:=#[.int .i64 a0_0,.int .i64 a0_1]) (t:=31) ?hr ?_;(case hd=>rfl);(case hg=>rfl);(case hr=>first|(go_simp;done)|(go_simp;rfl));intro gb319 hg w24 hbox hb;have BK319:=am hbox;have GW319:=bza HB hg;have GE319:=bza HB hg;replace HB:=bsa HB hb;clear hb hbox hg)|((with_reducible refine gate_dst (N:=4) rfl ?_);refine box_event ?hg (N:=4) ?hd (cs:=#[.int .i64 a1_0,.int .i64 a1_1]) (t:=31) ?hr ?_;(case hd=>rfl);(case hg=>rfl);(case hr=>first|(go_simp;done)|(go_simp;rfl));intro gb320 hg w25 hbox hb;have BK320:=am hbox;have GW320:=bza HB hg;have GE320:=bza HB hg;have NB319_320:=bla BK319 hg;have NB320_319:=bga BK319 hg;replace BK319:=bba BK319 hb;replace HB:=bsa HB hb;clear hb hbox hg)|((with_reducible refine gate_dst (N:=5) rfl ?_);refine box_event ?hg (N:=5) ?hd (cs:=#[.int .i64 a2_0,.int .i64 a2_1]) (t:=31) ?hr ?_;(case hd=>rfl);(case hg=>rfl);(case hr=>first|(go_simp;done)|(go_simp;rfl));intro gb321 hg w26 hbox hb;have BK321:=am hbox;have GW321:=bza HB hg;have GE321:=bza HB hg;have NB319_321:=bla BK319 hg;have NB321_319:=bga BK319 hg;have NB320_321:=bla BK320 hg;have NB321_320:=bga BK320 hg;replace BK319:=bba BK319 hb;replace BK320:=bba BK320 hb;replace HB:=bsa HB hb;clear hb hbox hg;have hnb27:=NB320_319.out;have hnc27:=NB319_320.out;have hnb28:=NB320_321.out;have hnc28:=NB321_320.out;obtain ⟨hcz29_0,hcz29_1,hfz29_0,hfz29_1⟩ := c2_ BK320.out;have hnb30:=NB319_321.out;have hnc30:=NB321_319.out;obtain ⟨hcz31_0,hcz31_1,hfz31_0,hfz31_1⟩ := c2_ BK319.out;obtain ⟨hcz32_0,hcz32_1,hfz32_0,hfz32_1⟩ := c2_ BK321.out))
   go_ret
   exact ⟨by first|rfl|(simp [errW_none,errW_some] <;> rfl)|(simp [*,errW_none,errW_some] <;> rfl),by repeat (first|(with_reducible first|exact HB.out|apply lA|apply lN|apply lD|refine lS ?_ GE319.out|refine lS ?_ GE320.out|refine lS ?_ GE321.out)|exact HB.out)⟩
def gangsawref03_On.f (a0_0 : Int) (a0_1 : Int) (a1_0 : Int) (a1_1 : Int) (a2_0 : Int) (a2_1 : Int) : Option (Bool):=(gangsawref03_Turn.f a0_0 a0_1 a1_0 a1_1 a2_0 a2_1).bind fun t325=>(if t325 = 0 then (if a2_0 ≥ (mn a0_0 a1_0) then (if a2_0 ≤ (mx a0_0 a1_0) then (if a2_1 ≥ (mn a0_1 a1_1) then (some (decide (a2_1 ≤ (mx a0_1 a1_1)))) else (some false)) else (some false)) else (some false)) else (some false))
set_option maxHeartbeats 8000000 in
set_option maxRecDepth 100000 in
theorem gangsawref03_On.calls (a0_0 : Int) (a0_1 : Int) (a1_0 : Int) (a1_1 : Int) (a2_0 : Int) (a2_1 : Int) (r : Bool) (w : World) (h : gangsawref03_On.f a0_0 a0_1 a1_0 a1_1 a2_0 a2_1 = some r) :
  Calls Try.prog 74 #[.agg #[.int .i64 a0_0,.int .i64 a0_1],.agg #[.int .i64 a1_0,.int .i64 a1_1],.agg #[.int .i64 a2_0,.int .i64 a2_1]] w fun e w'=>e = .returned (.bool r) ∧ Below w.heap.size w w':=by
 have hu31:=Try.underlying31;have HB:=am (Below.refl w.heap.size w);have H : ((gangsawref03_Turn.f a0_0 a0_1 a1_0 a1_1 a2_0 a2_1).bind fun t325=>(if t325 = 0 then (if a2_0 ≥ (mn a0_0 a1_0) then (if a2_0 ≤ (mx a0_0 a1_0) then (if a2_1 ≥ (mn a0_1 a1_1) then (some (decide (a2_1 ≤ (mx a0_1 a1_1)))) else (some false)) else (some false)) else (some false)) else (some false))) = some r:=h;clear h;replace H:=Option.bind_eq_some_iff.mp H;obtain ⟨t325,A40,H⟩ := H;replace H : (if t325 = 0 then (if a2_0 ≥ (mn a0_0 a1_0) then (if a2_0 ≤ (mx a0_0 a1_0) then (if a2_1 ≥ (mn a0_1 a1_1) then (some (decide (a2_1 ≤ (mx a0_1 a1_1)))) else (some false)) else (some false)) else (some false)) else (some false)) = some r:=H;have A4:=am A40;clear A40;by_cases c5 : t325 = 0
 ·rw [if_pos c5] at H;have c5b0 : (t325 == 0) = true:=beq_iff_eq.mpr c5;have c5b1 : (t325 != 0) = false:=bne_eq_false_iff_eq.mpr c5;clear c5
  obtain ⟨ji6,hji6⟩ : ∃ j_ : Int,(mn a0_0 a1_0) = j_:=⟨_,rfl⟩
  replace H : (if a2_0 ≥ (ji6) then (if a2_0 ≤ (mx a0_0 a1_0) then (if a2_1 ≥ (mn a0_1 a1_1) then (some (decide (a2_1 ≤ (mx a0_1 a1_1)))) else (some false)) else (some false)) else (some false)) = some r:=by first|(rw [hji6] at H;exact H)|(simp only [hji6] at H ⊢;exact H)
  (try rw [hji6] at A4)
  have hji6_ : (if a1_0 < a0_0 then a1_0 else a0_0) = ji6:=hji6;by_cases c7 : a2_0 ≥ (ji6)
  ·rw [if_pos c7] at H;have c7b0 : decide ((ji6) ≤ a2_0) = true:=decide_eq_true c7;clear c7
   obtain ⟨ji8,hji8⟩ : ∃ j_ : Int,(mx a0_0 a1_0) = j_:=⟨_,rfl⟩
   replace H : (if a2_0 ≤ (ji8) then (if a2_1 ≥ (mn a0_1 a1_1) then (some (decide (a2_1 ≤ (mx a0_1 a1_1)))) else (some false)) else (some false)) = some r:=by first|(rw [hji8] at H;exact H)|(simp only [hji8] at H ⊢;exact H)
   (try rw [hji8] at A4)
   have hji8_ : (if a0_0 < a1_0 then a1_0 else a0_0) = ji8:=hji8;by_cases c9 : a2_0 ≤ (ji8)
   ·rw [if_pos c9] at H;have c9b0 : decide (a2_0 ≤ (ji8)) = true:=decide_eq_true c9;clear c9
    obtain ⟨ji10,hji10⟩ : ∃ j_ : Int,(mn a0_1 a1_1) = j_:=⟨_,rfl⟩
    replace H : (if a2_1 ≥ (ji10) then (some (decide (a2_1 ≤ (mx a0_1 a1_1)))) else (some false)) = some r:=by first|(rw [hji10] at H;exact H)|(simp only [hji10] at H ⊢;exact H)
    (try rw [hji10] at A4)
    have hji10_ : (if a1_1 < a0_1 then a1_1 else a0_1) = ji10:=hji10;by_cases c11 : a2_1 ≥ (ji10)
    ·rw [if_pos c11] at H;have c11b0 : decide ((ji10) ≤ a2_1) = true:=decide_eq_true c11;clear c11
     obtain ⟨ji12,hji12⟩ : ∃ j_ : Int,(mx a0_1 a1_1) = j_:=⟨_,rfl⟩
     replace H : (some (decide (a2_1 ≤ (ji12)))) = some r:=by first|(rw [hji12] at H;exact H)|(simp only [hji12] at H ⊢;exact H)
     (try rw [hji12] at A4);have hji12_ : (if a0_1 < a1_1 then a1_1 else a0_1) = ji12:=hji12;obtain rfl:=Option.some.inj H
     go_enter Try.func74,Try.ntmps74
     go_wp2_with (first|((with_reducible refine gate_dst (N:=3) rfl ?_);(try (refine gate_guard (by rfl) ?_;dsimp only));refine box_event ?hg (N:=3) ?hd (cs:=#[.int .i64 a0_0,.int .i64 a0_1]) (t:=31) ?hr ?_;(case hd=>rfl);(case hg=>rfl);(case hr=>first|(go_simp;done)|(go_simp;rfl));intro gb322 hg w13 hbox hb;have BK322:=am hbox;have GW322:=bza HB hg;have GE322:=bza HB hg;replace HB:=bsa HB hb;clear hb hbox hg)|((with_reducible refine gate_dst (N:=4) rfl ?_);(try (refine gate_guard (by rfl) ?_;dsimp only));refine box_event ?hg (N:=4) ?hd (cs:=#[.int .i64 a1_0,.int .i64 a1_1]) (t:=31) ?hr ?_;(case hd=>rfl);(case hg=>rfl);(case hr=>first|(go_simp;done)|(go_simp;rfl));intro gb323 hg w14 hbox hb;have BK323:=am hbox;have GW323:=bza HB hg;have GE323:=bza HB hg;have NB322_323:=bla BK322 hg;have NB323_322:=bga BK322 hg;replace BK322:=bba BK322 hb;replace HB:=bsa HB hb;clear hb hbox hg)|((with_reducible refine gate_dst (N:=5) rfl ?_);(try (refine gate_guard (by rfl) ?_;dsimp only));refine box_event ?hg (N:=5) ?hd (cs:=#[.int .i64 a2_0,.int .i64 a2_1]) (t:=31) ?hr ?_;(case hd=>rfl);(case hg=>rfl);(case hr=>first|(go_simp;done)|(go_simp;rfl));intro gb324 hg w15 hbox hb;have BK324:=am hbox;have GW324:=bza HB hg;have GE324:=bza HB hg;have NB322_324:=bla BK322 hg;have NB324_322:=bga BK322 hg;have NB323_324:=bla BK323 hg;have NB324_323:=bga BK323 hg;replace BK322:=bba BK322 hb;replace BK323:=bba BK323 hb;replace HB:=bsa HB hb;clear hb hbox hg;have hnb16:=NB322_323.out;have hnc16:=NB323_322.out;have hnb17:=NB322_324.out;have hnc17:=NB324_322.out;obtain ⟨hcz18_0,hcz18_1,hfz18_0,hfz18_1⟩ := c2_ BK322.out;have hnb19:=NB323_324.out;have hnc19:=NB324_323.out;obtain ⟨hcz20_0,hcz20_1,hfz20_0,hfz20_1⟩ := c2_ BK323.out;obtain ⟨hcz21_0,hcz21_1,hfz21_0,hfz21_1⟩ := c2_ BK324.out)|((with_reducible refine gate_callee (f:=75) rfl ?_);refine goesL_ (some 10) rfl rfl Try.func75 (by kernel_rfl) rfl #[.agg #[.int .i64 a0_0,.int .i64 a0_1],.agg #[.int .i64 a1_0,.int .i64 a1_1],.agg #[.int .i64 a2_0,.int .i64 a2_1]] rfl (by (try simp only [mT,mC,mN]);first|done|rfl|(simp only [lDr,lTk];rfl)) ?_;(with_reducible refine (gangsawref03_Turn.calls a0_0 a0_1 a1_0 a1_1 a2_0 a2_1 t325 _ A4.out).mono ?_);rintro e w22 ⟨rfl,hb⟩;refine ⟨_,rfl, ?_⟩;replace BK322:=bba BK322 hb;replace BK323:=bba BK323 hb;replace BK324:=bba BK324 hb;replace HB:=bsa HB hb;(try clear hb);(try clear hb2);(try clear hk);(try clear hi);obtain ⟨hcz23_0,hcz23_1,hfz23_0,hfz23_1⟩ := c2_ BK324.out;obtain ⟨hcz24_0,hcz24_1,hfz24_0,hfz24_1⟩ := c2_ BK322.out;obtain ⟨hcz25_0,hcz25_1,hfz25_0,hfz25_1⟩ := c2_ BK323.out))
     go_ret
     exact ⟨by first|rfl|(simp [errW_none,errW_some] <;> rfl)|(simp only [← hji6,← hji8,← hji10,← hji12];first|rfl|(simp [errW_none,errW_some] <;> rfl))|(simp [*,errW_none,errW_some] <;> rfl),by repeat (first|(with_reducible first|exact HB.out|apply lA|apply lN|apply lD|refine lS ?_ GE322.out|refine lS ?_ GE323.out|refine lS ?_ GE324.out)|exact HB.out)⟩
    ·rw [if_neg c11] at H;have c11b0 : decide ((ji10) ≤ a2_1) = false:=decide_eq_false c11;clear c11;obtain rfl:=Option.some.inj H
     go_enter Try.func74,Try.ntmps74
     go_wp2_with (first|((with_reducible refine gate_dst (N:=3) rfl ?_);(try (refine gate_guard (by rfl) ?_;dsimp only));refine box_event ?hg (N:=3) ?hd (cs:=#[.int .i64 a0_0,.int .i64 a0_1]) (t:=31) ?hr ?_;(case hd=>rfl);(case hg=>rfl);(case hr=>first|(go_simp;done)|(go_simp;rfl));intro gb322 hg w26 hbox hb;have BK322:=am hbox;have GW322:=bza HB hg;have GE322:=bza HB hg;replace HB:=bsa HB hb;clear hb hbox hg)|((with_reducible refine gate_dst (N:=4) rfl ?_);(try (refine gate_guard (by rfl) ?_;dsimp only));refine box_event ?hg (N:=4) ?hd (cs:=#[.int .i64 a1_0,.int .i64 a1_1]) (t:=31) ?hr ?_;(case hd=>rfl);(case hg=>rfl);(case hr=>first|(go_simp;done)|(go_simp;rfl));intro gb323 hg w27 hbox hb;have BK323:=am hbox;have GW323:=bza HB hg;have GE323:=bza HB hg;have NB322_323:=bla BK322 hg;have NB323_322:=bga BK322 hg;replace BK322:=bba BK322 hb;replace HB:=bsa HB hb;clear hb hbox hg)|((with_reducible refine gate_dst (N:=5) rfl ?_);(try (refine gate_guard (by rfl) ?_;dsimp only));refine box_event ?hg (N:=5) ?hd (cs:=#[.int .i64 a2_0,.int .i64 a2_1]) (t:=31) ?hr ?_;(case hd=>rfl);(case hg=>rfl);(case hr=>first|(go_simp;done)|(go_simp;rfl));intro gb324 hg w28 hbox hb;have BK324:=am hbox;have GW324:=bza HB hg;have GE324:=bza HB hg;have NB322_324:=bla BK322 hg;have NB324_322:=bga BK322 hg;have NB323_324:=bla BK323 hg;have NB324_323:=bga BK323 hg;replace BK322:=bba BK322 hb;replace BK323:=bba BK323 hb;replace HB:=bsa HB hb;clear hb hbox hg;have hnb29:=NB322_323.out;have hnc29:=NB323_322.out;have hnb30:=NB322_324.out;have hnc30:=NB324_322.out;obtain ⟨hcz31_0,hcz31_1,hfz31_0,hfz31_1⟩ := c2_ BK322.out;have hnb32:=NB323_324.out;have hnc32:=NB324_323.out;obtain ⟨hcz33_0,hcz33_1,hfz33_0,hfz33_1⟩ := c2_ BK323.out;obtain ⟨hcz34_0,hcz34_1,hfz34_0,hfz34_1⟩ := c2_ BK324.out)|((with_reducible refine gate_callee (f:=75) rfl ?_);refine goesL_ (some 10) rfl rfl Try.func75 (by kernel_rfl) rfl #[.agg #[.int .i64 a0_0,.int .i64 a0_1],.agg #[.int .i64 a1_0,.int .i64 a1_1],.agg #[.int .i64 a2_0,.int .i64 a2_1]] rfl (by (try simp only [mT,mC,mN]);first|done|rfl|(simp only [lDr,lTk];rfl)) ?_;(with_reducible refine (gangsawref03_Turn.calls a0_0 a0_1 a1_0 a1_1 a2_0 a2_1 t325 _ A4.out).mono ?_);rintro e w35 ⟨rfl,hb⟩;refine ⟨_,rfl, ?_⟩;replace BK322:=bba BK322 hb;replace BK323:=bba BK323 hb;replace BK324:=bba BK324 hb;replace HB:=bsa HB hb;(try clear hb);(try clear hb2);(try clear hk);(try clear hi);obtain ⟨hcz36_0,hcz36_1,hfz36_0,hfz36_1⟩ := c2_ BK324.out;obtain ⟨hcz37_0,hcz37_1,hfz37_0,hfz37_1⟩ := c2_ BK322.out;obtain ⟨hcz38_0,hcz38_1,hfz38_0,hfz38_1⟩ := c2_ BK323.out))
     go_ret
     exact ⟨by first|rfl|(simp [errW_none,errW_some] <;> rfl)|(simp only [← hji6,← hji8,← hji10];first|rfl|(simp [errW_none,errW_some] <;> rfl))|(simp [*,errW_none,errW_some] <;> rfl),by repeat (first|(with_reducible first|exact HB.out|apply lA|apply lN|apply lD|refine lS ?_ GE322.out|refine lS ?_ GE323.out|refine lS ?_ GE324.out)|exact HB.out)⟩
   ·rw [if_neg c9] at H;have c9b0 : decide (a2_0 ≤ (ji8)) = false:=decide_eq_false c9;clear c9;obtain rfl:=Option.some.inj H
    go_enter Try.func74,Try.ntmps74
    go_wp2_with (first|((with_reducible refine gate_dst (N:=3) rfl ?_);(try (refine gate_guard (by rfl) ?_;dsimp only));refine box_event ?hg (N:=3) ?hd (cs:=#[.int .i64 a0_0,.int .i64 a0_1]) (t:=31) ?hr ?_;(case hd=>rfl);(case hg=>rfl);(case hr=>first|(go_simp;done)|(go_simp;rfl));intro gb322 hg w39 hbox hb;have BK322:=am hbox;have GW322:=bza HB hg;have GE322:=bza HB hg;replace HB:=bsa HB hb;clear hb hbox hg)|((with_reducible refine gate_dst (N:=4) rfl ?_);(try (refine gate_guard (by rfl) ?_;dsimp only));refine box_event ?hg (N:=4) ?hd (cs:=#[.int .i64 a1_0,.int .i64 a1_1]) (t:=31) ?hr ?_;(case hd=>rfl);(case hg=>rfl);(case hr=>first|(go_simp;done)|(go_simp;rfl));intro gb323 hg w40 hbox hb;have BK323:=am hbox;have GW323:=bza HB hg;have GE323:=bza HB hg;have NB322_323:=bla BK322 hg;have NB323_322:=bga BK322 hg;replace BK322:=bba BK322 hb;replace HB:=bsa HB hb;clear hb hbox hg)|((with_reducible refine gate_dst (N:=5) rfl ?_);(try (refine gate_guard (by rfl) ?_;dsimp only));refine box_event ?hg (N:=5) ?hd (cs:=#[.int .i64 a2_0,.int .i64 a2_1]) (t:=31) ?hr ?_;(case hd=>rfl);(case hg=>rfl);(case hr=>first|(go_simp;done)|(go_simp;rfl));intro gb324 hg w41 hbox hb;have BK324:=am hbox;have GW324:=bza HB hg;have GE324:=bza HB hg;have NB322_324:=bla BK322 hg;have NB324_322:=bga BK322 hg;have NB323_324:=bla BK323 hg;have NB324_323:=bga BK323 hg;replace BK322:=bba BK322 hb;replace BK323:=bba BK323 hb;replace HB:=bsa HB hb;clear hb hbox hg;have hnb42:=NB322_323.out;have hnc42:=NB323_322.out;have hnb43:=NB322_324.out;have hnc43:=NB324_322.out;obtain ⟨hcz44_0,hcz44_1,hfz44_0,hfz44_1⟩ := c2_ BK322.out;have hnb45:=NB323_324.out;have hnc45:=NB324_323.out;obtain ⟨hcz46_0,hcz46_1,hfz46_0,hfz46_1⟩ := c2_ BK323.out;obtain ⟨hcz47_0,hcz47_1,hfz47_0,hfz47_1⟩ := c2_ BK324.out)|((with_reducible refine gate_callee (f:=75) rfl ?_);refine goesL_ (some 10) rfl rfl Try.func75 (by kernel_rfl) rfl #[.agg #[.int .i64 a0_0,.int .i64 a0_1],.agg #[.int .i64 a1_0,.int .i64 a1_1],.agg #[.int .i64 a2_0,.int .i64 a2_1]] rfl (by (try simp only [mT,mC,mN]);first|done|rfl|(simp only [lDr,lTk];rfl)) ?_;(with_reducible refine (gangsawref03_Turn.calls a0_0 a0_1 a1_0 a1_1 a2_0 a2_1 t325 _ A4.out).mono ?_);rintro e w48 ⟨rfl,hb⟩;refine ⟨_,rfl, ?_⟩;replace BK322:=bba BK322 hb;replace BK323:=bba BK323 hb;replace BK324:=bba BK324 hb;replace HB:=bsa HB hb;(try clear hb);(try clear hb2);(try clear hk);(try clear hi);obtain ⟨hcz49_0,hcz49_1,hfz49_0,hfz49_1⟩ := c2_ BK324.out;obtain ⟨hcz50_0,hcz50_1,hfz50_0,hfz50_1⟩ := c2_ BK322.out;obtain ⟨hcz51_0,hcz51_1,hfz51_0,hfz51_1⟩ := c2_ BK323.out))
    go_ret
    exact ⟨by first|rfl|(simp [errW_none,errW_some] <;> rfl)|(simp only [← hji6,← hji8];first|rfl|(simp [errW_none,errW_some] <;> rfl))|(simp [*,errW_none,errW_some] <;> rfl),by repeat (first|(with_reducible first|exact HB.out|apply lA|apply lN|apply lD|refine lS ?_ GE322.out|refine lS ?_ GE323.out|refine lS ?_ GE324.out)|exact HB.out)⟩
  ·rw [if_neg c7] at H;have c7b0 : decide ((ji6) ≤ a2_0) = false:=decide_eq_false c7;clear c7;obtain rfl:=Option.some.inj H
   go_enter Try.func74,Try.ntmps74
   go_wp2_with (first|((with_reducible refine gate_dst (N:=3) rfl ?_);(try (refine gate_guard (by rfl) ?_;dsimp only));refine box_event ?hg (N:=3) ?hd (cs:=#[.int .i64 a0_0,.int .i64 a0_1]) (t:=31) ?hr ?_;(case hd=>rfl);(case hg=>rfl);(case hr=>first|(go_simp;done)|(go_simp;rfl));intro gb322 hg w52 hbox hb;have BK322:=am hbox;have GW322:=bza HB hg;have GE322:=bza HB hg;replace HB:=bsa HB hb;clear hb hbox hg)|((with_reducible refine gate_dst (N:=4) rfl ?_);(try (refine gate_guard (by rfl) ?_;dsimp only));refine box_event ?hg (N:=4) ?hd (cs:=#[.int .i64 a1_0,.int .i64 a1_1]) (t:=31) ?hr ?_;(case hd=>rfl);(case hg=>rfl);(case hr=>first|(go_simp;done)|(go_simp;rfl));intro gb323 hg w53 hbox hb;have BK323:=am hbox;have GW323:=bza HB hg;have GE323:=bza HB hg;have NB322_323:=bla BK322 hg;have NB323_322:=bga BK322 hg;replace BK322:=bba BK322 hb;replace HB:=bsa HB hb;clear hb hbox hg)|((with_reducible refine gate_dst (N:=5) rfl ?_);(try (refine gate_guard (by rfl) ?_;dsimp only));refine box_event ?hg (N:=5) ?hd (cs:=#[.int .i64 a2_0,.int .i64 a2_1]) (t:=31) ?hr ?_;(case hd=>rfl);(case hg=>rfl);(case hr=>first|(go_simp;done)|(go_simp;rfl));intro gb324 hg w54 hbox hb;have BK324:=am hbox;have GW324:=bza HB hg;have GE324:=bza HB hg;have NB322_324:=bla BK322 hg;have NB324_322:=bga BK322 hg;have NB323_324:=bla BK323 hg;have NB324_323:=bga BK323 hg;replace BK322:=bba BK322 hb;replace BK323:=bba BK323 hb;replace HB:=bsa HB hb;clear hb hbox hg;have hnb55:=NB322_323.out;have hnc55:=NB323_322.out;have hnb56:=NB322_324.out;have hnc56:=NB324_322.out;obtain ⟨hcz57_0,hcz57_1,hfz57_0,hfz57_1⟩ := c2_ BK322.out;have hnb58:=NB323_324.out;have hnc58:=NB324_323.out;obtain ⟨hcz59_0,hcz59_1,hfz59_0,hfz59_1⟩ := c2_ BK323.out;obtain ⟨hcz60_0,hcz60_1,hfz60_0,hfz60_1⟩ := c2_ BK324.out)|((with_reducible refine gate_callee (f:=75) rfl ?_);refine goesL_ (some 10) rfl rfl Try.func75 (by kernel_rfl) rfl #[.agg #[.int .i64 a0_0,.int .i64 a0_1],.agg #[.int .i64 a1_0,.int .i64 a1_1],.agg #[.int .i64 a2_0,.int .i64 a2_1]] rfl (by (try simp only [mT,mC,mN]);first|done|rfl|(simp only [lDr,lTk];rfl)) ?_;(with_reducible refine (gangsawref03_Turn.calls a0_0 a0_1 a1_0 a1_1 a2_0 a2_1 t325 _ A4.out).mono ?_);rintro e w61 ⟨rfl,hb⟩;refine ⟨_,rfl, ?_⟩;replace BK322:=bba BK322 hb;replace BK323:=bba BK323 hb;replace BK324:=bba BK324 hb;replace HB:=bsa HB hb;(try clear hb);(try clear hb2);(try clear hk);(try clear hi);obtain ⟨hcz62_0,hcz62_1,hfz62_0,hfz62_1⟩ := c2_ BK324.out;obtain ⟨hcz63_0,hcz63_1,hfz63_0,hfz63_1⟩ := c2_ BK322.out;obtain ⟨hcz64_0,hcz64_1,hfz64_0,hfz64_1⟩ := c2_ BK323.out))
   go_ret
   exact ⟨by first|rfl|(simp [errW_none,errW_some] <;> rfl)|(simp only [← hji6];first|rfl|(simp [errW_none,errW_some] <;> rfl))|(simp [*,errW_none,errW_some] <;> rfl),by repeat (first|(with_reducible first|exact HB.out|apply lA|apply lN|apply lD|refine lS ?_ GE322.out|refine lS ?_ GE323.out|refine lS ?_ GE324.out)|exact HB.out)⟩
 ·rw [if_neg c5] at H;have c5b0 : (t325 == 0) = false:=beq_eq_false_iff_ne.mpr c5;have c5b1 : (t325 != 0) = true:=bne_iff_ne.mpr c5;obtain rfl:=Option.some.inj H
  go_enter Try.func74,Try.ntmps74
  go_wp2_with (first|((with_reducible refine gate_dst (N:=3) rfl ?_);(try (refine gate_guard (by rfl) ?_;dsimp only));refine box_event ?hg (N:=3) ?hd (cs:=#[.int .i64 a0_0,.int .i64 a0_1]) (t:=31) ?hr ?_;(case hd=>rfl);(case hg=>rfl);(case hr=>first|(go_simp;done)|(go_simp;rfl));intro gb322 hg w65 hbox hb;have BK322:=am hbox;have GW322:=bza HB hg;have GE322:=bza HB hg;replace HB:=bsa HB hb;clear hb hbox hg)|((with_reducible refine gate_dst (N:=4) rfl ?_);(try (refine gate_guard (by rfl) ?_;dsimp only));refine box_event ?hg (N:=4) ?hd (cs:=#[.int .i64 a1_0,.int .i64 a1_1]) (t:=31) ?hr ?_;(case hd=>rfl);(case hg=>rfl);(case hr=>first|(go_simp;done)|(go_simp;rfl));intro gb323 hg w66 hbox hb;have BK323:=am hbox;have GW323:=bza HB hg;have GE323:=bza HB hg;have NB322_323:=bla BK322 hg;have NB323_322:=bga BK322 hg;replace BK322:=bba BK322 hb;replace HB:=bsa HB hb;clear hb hbox hg)|((with_reducible refine gate_dst (N:=5) rfl ?_);(try (refine gate_guard (by rfl) ?_;dsimp only));refine box_event ?hg (N:=5) ?hd (cs:=#[.int .i64 a2_0,.int .i64 a2_1]) (t:=31) ?hr ?_;(case hd=>rfl);(case hg=>rfl);(case hr=>first|(go_simp;done)|(go_simp;rfl));intro gb324 hg w67 hbox hb;have BK324:=am hbox;have GW324:=bza HB hg;have GE324:=bza HB hg;have NB322_324:=bla BK322 hg;have NB324_322:=bga BK322 hg;have NB323_324:=bla BK323 hg;have NB324_323:=bga BK323 hg;replace BK322:=bba BK322 hb;replace BK323:=bba BK323 hb;replace HB:=bsa HB hb;clear hb hbox hg;have hnb68:=NB322_323.out;have hnc68:=NB323_322.out;have hnb69:=NB322_324.out;have hnc69:=NB324_322.out;obtain ⟨hcz70_0,hcz70_1,hfz70_0,hfz70_1⟩ := c2_ BK322.out;have hnb71:=NB323_324.out;have hnc71:=NB324_323.out;obtain ⟨hcz72_0,hcz72_1,hfz72_0,hfz72_1⟩ := c2_ BK323.out;obtain ⟨hcz73_0,hcz73_1,hfz73_0,hfz73_1⟩ := c2_ BK324.out)|((with_reducible refine gate_callee (f:=75) rfl ?_);refine goesL_ (some 10) rfl rfl Try.func75 (by kernel_rfl) rfl #[.agg #[.int .i64 a0_0,.int .i64 a0_1],.agg #[.int .i64 a1_0,.int .i64 a1_1],.agg #[.int .i64 a2_0,.int .i64 a2_1]] rfl (by (try simp only [mT,mC,mN]);first|done|rfl|(simp only [lDr,lTk];rfl)) ?_;(with_reducible refine (gangsawref03_Turn.calls a0_0 a0_1 a1_0 a1_1 a2_0 a2_1 t325 _ A4.out).mono ?_);rintro e w74 ⟨rfl,hb⟩;refine ⟨_,rfl, ?_⟩;replace BK322:=bba BK322 hb;replace BK323:=bba BK323 hb;replace BK324:=bba BK324 hb;replace HB:=bsa HB hb;(try clear hb);(try clear hb2);(try clear hk);(try clear hi)))
  go_ret
  exact ⟨by first|rfl|(simp [errW_none,errW_some] <;> rfl)|(simp [*,errW_none,errW_some] <;> rfl),by repeat (first|(with_reducible first|exact HB.out|apply lA|apply lN|apply lD|refine lS ?_ GE322.out|refine lS ?_ GE323.out|refine lS ?_ GE324.out)|exact HB.out)⟩
def gangsawref03_before.f (a0_0 : Int) (a0_1 : Int) (a1_0 : Int) (a1_1 : Int) : Option (Bool):=if a0_0 < a1_0 then (some true) else (if a0_0 = a1_0 then (some (decide (a0_1 < a1_1))) else (some false))
set_option maxHeartbeats 8000000 in
set_option maxRecDepth 100000 in
theorem gangsawref03_before.calls (a0_0 : Int) (a0_1 : Int) (a1_0 : Int) (a1_1 : Int) (r : Bool) (w : World) (h : gangsawref03_before.f a0_0 a0_1 a1_0 a1_1 = some r) :
  Calls Try.prog 77 #[.agg #[.int .i64 a0_0,.int .i64 a0_1],.agg #[.int .i64 a1_0,.int .i64 a1_1]] w fun e w'=>e = .returned (.bool r) ∧ Below w.heap.size w w':=by
 have hu31:=Try.underlying31;have HB:=am (Below.refl w.heap.size w);have H : (if a0_0 < a1_0 then (some true) else (if a0_0 = a1_0 then (some (decide (a0_1 < a1_1))) else (some false))) = some r:=h;clear h;by_cases c3 : a0_0 < a1_0
 ·rw [if_pos c3] at H;have c3b0 : decide (a0_0 < a1_0) = true:=decide_eq_true c3;clear c3;obtain rfl:=Option.some.inj H
  go_enter Try.func77,Try.ntmps77
  go_wp2_with (first|((with_reducible refine gate_dst (N:=2) rfl ?_);refine box_event ?hg (N:=2) ?hd (cs:=#[.int .i64 a0_0,.int .i64 a0_1]) (t:=31) ?hr ?_;(case hd=>rfl);(case hg=>rfl);(case hr=>first|(go_simp;done)|(go_simp;rfl));intro gb326 hg w4 hbox hb;have BK326:=am hbox;have GW326:=bza HB hg;have GE326:=bza HB hg;replace HB:=bsa HB hb;clear hb hbox hg)|((with_reducible refine gate_dst (N:=3) rfl ?_);refine box_event ?hg (N:=3) ?hd (cs:=#[.int .i64 a1_0,.int .i64 a1_1]) (t:=31) ?hr ?_;(case hd=>rfl);(case hg=>rfl);(case hr=>first|(go_simp;done)|(go_simp;rfl));intro gb327 hg w5 hbox hb;have BK327:=am hbox;have GW327:=bza HB hg;have GE327:=bza HB hg;have NB326_327:=bla BK326 hg;have NB327_326:=bga BK326 hg;replace BK326:=bba BK326 hb;replace HB:=bsa HB hb;clear hb hbox hg;have hnb6:=NB326_327.out;have hnc6:=NB327_326.out;obtain ⟨hcz7_0,hcz7_1,hfz7_0,hfz7_1⟩ := c2_ BK326.out;obtain ⟨hcz8_0,hcz8_1,hfz8_0,hfz8_1⟩ := c2_ BK327.out))
  go_ret
  exact ⟨by first|rfl|(simp [errW_none,errW_some] <;> rfl)|(simp [*,errW_none,errW_some] <;> rfl),by repeat (first|(with_reducible first|exact HB.out|apply lA|apply lN|apply lD|refine lS ?_ GE326.out|refine lS ?_ GE327.out)|exact HB.out)⟩
 ·rw [if_neg c3] at H;have c3b0 : decide (a0_0 < a1_0) = false:=decide_eq_false c3;clear c3;by_cases c9 : a0_0 = a1_0
  ·rw [if_pos c9] at H;have c9b0 : (a0_0 == a1_0) = true:=beq_iff_eq.mpr c9;have c9b1 : (a0_0 != a1_0) = false:=bne_eq_false_iff_eq.mpr c9;clear c9;obtain rfl:=Option.some.inj H
   go_enter Try.func77,Try.ntmps77
   go_wp2_with (first|((with_reducible refine gate_dst (N:=2) rfl ?_);refine box_event ?hg (N:=2) ?hd (cs:=#[.int .i64 a0_0,.int .i64 a0_1]) (t:=31) ?hr ?_;(case hd=>rfl);(case hg=>rfl);(case hr=>first|(go_simp;done)|(go_simp;rfl));intro gb326 hg w10 hbox hb;have BK326:=am hbox;have GW326:=bza HB hg;have GE326:=bza HB hg;replace HB:=bsa HB hb;clear hb hbox hg)|((with_reducible refine gate_dst (N:=3) rfl ?_);refine box_event ?hg (N:=3) ?hd (cs:=#[.int .i64 a1_0,.int .i64 a1_1]) (t:=31) ?hr ?_;(case hd=>rfl);(case hg=>rfl);(case hr=>first|(go_simp;done)|(go_simp;rfl));intro gb327 hg w11 hbox hb;have BK327:=am hbox;have GW327:=bza HB hg;have GE327:=bza HB hg;have NB326_327:=bla BK326 hg;have NB327_326:=bga BK326 hg;replace BK326:=bba BK326 hb;replace HB:=bsa HB hb;clear hb hbox hg;have hnb12:=NB326_327.out;have hnc12:=NB327_326.out;obtain ⟨hcz13_0,hcz13_1,hfz13_0,hfz13_1⟩ := c2_ BK326.out;obtain ⟨hcz14_0,hcz14_1,hfz14_0,hfz14_1⟩ := c2_ BK327.out))
   go_ret
   exact ⟨by first|rfl|(simp [errW_none,errW_some] <;> rfl)|(simp [*,errW_none,errW_some] <;> rfl),by repeat (first|(with_reducible first|exact HB.out|apply lA|apply lN|apply lD|refine lS ?_ GE326.out|refine lS ?_ GE327.out)|exact HB.out)⟩
  ·rw [if_neg c9] at H;have c9b0 : (a0_0 == a1_0) = false:=beq_eq_false_iff_ne.mpr c9;have c9b1 : (a0_0 != a1_0) = true:=bne_iff_ne.mpr c9;obtain rfl:=Option.some.inj H
   go_enter Try.func77,Try.ntmps77
   go_wp2_with (first|((with_reducible refine gate_dst (N:=2) rfl ?_);refine box_event ?hg (N:=2) ?hd (cs:=#[.int .i64 a0_0,.int .i64 a0_1]) (t:=31) ?hr ?_;(case hd=>rfl);(case hg=>rfl);(case hr=>first|(go_simp;done)|(go_simp;rfl));intro gb326 hg w15 hbox hb;have BK326:=am hbox;have GW326:=bza HB hg;have GE326:=bza HB hg;replace HB:=bsa HB hb;clear hb hbox hg)|((with_reducible refine gate_dst (N:=3) rfl ?_);refine box_event ?hg (N:=3) ?hd (cs:=#[.int .i64 a1_0,.int .i64 a1_1]) (t:=31) ?hr ?_;(case hd=>rfl);(case hg=>rfl);(case hr=>first|(go_simp;done)|(go_simp;rfl));intro gb327 hg w16 hbox hb;have BK327:=am hbox;have GW327:=bza HB hg;have GE327:=bza HB hg;have NB326_327:=bla BK326 hg;have NB327_326:=bga BK326 hg;replace BK326:=bba BK326 hb;replace HB:=bsa HB hb;clear hb hbox hg;have hnb17:=NB326_327.out;have hnc17:=NB327_326.out;obtain ⟨hcz18_0,hcz18_1,hfz18_0,hfz18_1⟩ := c2_ BK326.out;obtain ⟨hcz19_0,hcz19_1,hfz19_0,hfz19_1⟩ := c2_ BK327.out))
   go_ret
   exact ⟨by first|rfl|(simp [errW_none,errW_some] <;> rfl)|(simp [*,errW_none,errW_some] <;> rfl),by repeat (first|(with_reducible first|exact HB.out|apply lA|apply lN|apply lD|refine lS ?_ GE326.out|refine lS ?_ GE327.out)|exact HB.out)⟩
end Go.Proofs.Ytnjikioimompnaa.PA
