import Derived.Test.YtdnjagfbhppmbaaPAx0
namespace Go.Proofs.Ytdnjagfbhppmbaa.PA
open Go.RowKit Go.Proofs.YtdnjagfbhppmbaaW.PrintWords Go.Proofs.YtdnjagfbhppmbaaW.PrintLast Go.Proofs.YtdnjagfbhppmbaaW.PrintMore
attribute [local go_sem] max2_int min2_int max_two min_two max_three min_three max_four min_four
set_option linter.unusedVariables false
set_option linter.unusedSimpArgs false
noncomputable section
mutual
def gangsawref24_Few.j0 : Nat → List (S59) → Bool → Option (Bool)
 | 0, _, _ => none
 | k + 1, x0, x16 => if x16 = true then (some false) else (gangsawref24_Few.l0 k x0 0)
def gangsawref24_Few.l0 : Nat → List (S59) → Int → Option (Bool)
 | 0, _, _ => none
 | k + 1, x0, x3 => if x3 < (x0.length : Int) then (if 0 ≤ x3 then (if (((rd_T59 x0 x3).f1).size : Int) > 60 then (some false) else (gangsawref24_Few.l0 k x0 (wrap64 (x3 + 1)))) else (none)) else (some true)
end
def gangsawref24_Few.f (k : Nat) (l0 : List (S59)) : Option (Bool) := if (l0.length : Int) > 60 then (if (l0.length : Int) ≤ 1024 then (gangsawref24_Few.j0 k l0 true) else (gangsawref24_Few.j0 k l0 (decide ((l0.length : Int) > 1034)))) else (gangsawref24_Few.j0 k l0 (decide ((l0.length : Int) > 1034)))
set_option maxHeartbeats 8000000 in
set_option maxRecDepth 100000 in
theorem gangsawref24_Few.calls (k : Nat) (A0 : Option Addr) (c0 : Nat) (l0 : List (S59)) (r : Bool) (w : World) (hr0 : Kd.C k59 w A0 l0.length l0) (hc0 : l0.length ≤ c0) (h : gangsawref24_Few.f k l0 = some r) :
  Calls Try.prog 27 #[.slice A0 l0.length c0] w fun e w' => e = .returned (.bool r) ∧ Drawn0 w w' := by
 have HR0 := am hr0;have HC0 := am hc0;clear hr0 hc0;have H : (if (l0.length : Int) > 60 then (if (l0.length : Int) ≤ 1024 then (gangsawref24_Few.j0 k l0 true) else (gangsawref24_Few.j0 k l0 (decide ((l0.length : Int) > 1034)))) else (gangsawref24_Few.j0 k l0 (decide ((l0.length : Int) > 1034)))) = some r := h;clear h;have HC2 := am H;clear H
 go_enter Try.func27, Try.ntmps27
 go_upto_region 1 with (fail)
 go_cut [16] (fun v16 wc => ∃ (kq : Nat) (x16_1 : Bool), v16 = .bool x16_1 ∧ Aside0 (gangsawref24_Few.j0 kq l0 x16_1 = some r) ∧ Aside0 (kq ≤ k) ∧ Drawn0 w wc)
 case first =>
  have H := HC2.out;clear HC2;by_cases c3 : (l0.length : Int) > 60
  ·rw [if_pos c3] at H;have c3b0 : decide (60 < (l0.length : Int)) = true := decide_eq_true c3;have c3b1 : decide (60 < l0.length) = true := decide_eq_true (by omega);clear c3;(first | rw [c3b0] | (simp only [i64_w, i32_w]; rw [c3b0]) | skip)
   by_cases c4 : (l0.length : Int) ≤ 1024
   ·rw [if_pos c4] at H;have c4b0 : decide ((l0.length : Int) ≤ 1024) = true := decide_eq_true c4;have c4b1 : decide (l0.length ≤ 1024) = true := decide_eq_true (by omega);clear c4;have H' := am H;clear H
    go_wp2
    go_meet
    case rel => exact ⟨_, (true), (by first | rfl | (simp; done) | (simp [*]; done)), H', ⟨by first | omega | exact Nat.le_refl _⟩, by repeat (first | exact Drawn0.refl _ | apply Drawn0.step)⟩
   ·rw [if_neg c4] at H;have c4b0 : decide ((l0.length : Int) ≤ 1024) = false := decide_eq_false c4;have c4b1 : decide (l0.length ≤ 1024) = false := decide_eq_false (by omega);clear c4;have H' := am H;clear H
    go_wp2
    go_meet
    case rel => exact ⟨_, (decide ((l0.length : Int) > 1034)), (by first | rfl | (simp; done) | (simp [*]; done)), H', ⟨by first | omega | exact Nat.le_refl _⟩, by repeat (first | exact Drawn0.refl _ | apply Drawn0.step)⟩
  ·rw [if_neg c3] at H;have c3b0 : decide (60 < (l0.length : Int)) = false := decide_eq_false c3;have c3b1 : decide (60 < l0.length) = false := decide_eq_false (by omega);clear c3;(first | rw [c3b0] | (simp only [i64_w, i32_w]; rw [c3b0]) | skip);have H' := am H;clear H
   go_wp2
   go_meet
   case rel => exact ⟨_, (decide ((l0.length : Int) > 1034)), (by first | rfl | (simp; done) | (simp [*]; done)), H', ⟨by first | omega | exact Nat.le_refl _⟩, by repeat (first | exact Drawn0.refl _ | apply Drawn0.step)⟩
 case rest =>
  clear HC2
  try clear c2
  try clear p2
  try clear c3
  try clear c3b0
  try clear c3b1
  try clear c4
  try clear c4b0
  try clear c4b1
  obtain ⟨kq, x16_1, rfl, HA, HJ1, ⟨mc1, rfl⟩⟩ := hcut
  cases kq with
  | zero => exact absurd HA.out (by simp [gangsawref24_Few.j0])
  | succ kj1 =>
   have H := HA.out;clear HA;simp only [gangsawref24_Few.j0] at H;by_cases c5 : x16_1 = true
   ·subst c5
    have H1 : (some false) = some r := by rw [if_pos rfl] at H; exact H
    clear H;have H := H1;clear H1;obtain rfl := Option.some.inj H
    go_wp2
    go_ret
    exact ⟨by first | rfl | (simp; done) | (simp [*]; done), by repeat (first | exact Drawn0.refl _ | apply Drawn0.step)⟩
   ·replace c5 := Bool.eq_false_iff.mpr c5;subst c5
    have H1 : (gangsawref24_Few.l0 kj1 l0 0) = some r := by rw [if_neg (show ¬ (false = true) by decide)] at H; exact H
    clear H;have H := H1;clear H1;have H' := am H;clear H
    go_wp2
    go_loopg [3] kj1 (fun kq v3 w' => ∃ (x3_2 : Int), v3 = .int .i64 x3_2 ∧ Aside0 (gangsawref24_Few.l0 kq l0 x3_2 = some r) ∧ Aside0 (kq ≤ kj1) ∧ Drawn0 w w')
    case atStart => exact ⟨(0), (by first | rfl | (simp; done) | (simp [*]; done)), H', ⟨Nat.le_refl _⟩, by repeat (first | exact Drawn0.refl _ | apply Drawn0.step)⟩
    case round =>
     clear H'
     try clear c1
     try clear c2
     try clear p2
     try clear c3
     try clear c3b0
     try clear c3b1
     try clear c4
     try clear c4b0
     try clear c4b1
     try clear c5
     try clear p2
     obtain ⟨x3_2, rfl, HA, HK2, ⟨m2, rfl⟩⟩ := hrel
     cases gk with
     | zero => exact absurd HA.out (by simp [gangsawref24_Few.l0])
     | succ k2 =>
      have H := HA.out;clear HA;simp only [gangsawref24_Few.l0] at H;by_cases c6 : x3_2 < (l0.length : Int)
      ·rw [if_pos c6] at H;have c6b0 : decide (x3_2 < (l0.length : Int)) = true := decide_eq_true c6;clear c6;by_cases c7 : 0 ≤ x3_2
       ·rw [if_pos c7] at H;have c7b0 : decide (0 ≤ x3_2) = true := decide_eq_true c7;clear c7;by_cases c8 : (((rd_T59 l0 x3_2).f1).size : Int) > 60
        ·rw [if_pos c8] at H;have c8b0 : decide (60 < (((rd_T59 l0 x3_2).f1).size : Int)) = true := decide_eq_true c8;have c8b1 : decide (60 < ((rd_T59 l0 x3_2).f1).size) = true := decide_eq_true (by omega);clear c8;obtain rfl := Option.some.inj H;have p376 : 0 ≤ (x3_2 : Int) := of_decide_eq_true (by first | (with_reducible assumption) | assumption);have q376 : x3_2 < (l0.length : Int) := of_decide_eq_true (by first | (with_reducible assumption) | assumption);obtain ⟨ad376, e376, hx376_0, hx376_1, hx376_2, hx376_3, hx376_4, hx376_5, hx376_6⟩ := at_T59 HR0.out x3_2 p376 q376
         cases e376
         replace p376 := eq_true p376;replace q376 := eq_true q376
         go_wp2
         go_ret
         exact ⟨by first | rfl | (simp; done) | (simp [*]; done), by repeat (first | exact Drawn0.refl _ | apply Drawn0.step)⟩
        ·rw [if_neg c8] at H;have c8b0 : decide (60 < (((rd_T59 l0 x3_2).f1).size : Int)) = false := decide_eq_false c8;have c8b1 : decide (60 < ((rd_T59 l0 x3_2).f1).size) = false := decide_eq_false (by omega);clear c8;have H' := am H;clear H;have p376 : 0 ≤ (x3_2 : Int) := of_decide_eq_true (by first | (with_reducible assumption) | assumption);have q376 : x3_2 < (l0.length : Int) := of_decide_eq_true (by first | (with_reducible assumption) | assumption);obtain ⟨ad376, e376, hx376_0, hx376_1, hx376_2, hx376_3, hx376_4, hx376_5, hx376_6⟩ := at_T59 HR0.out x3_2 p376 q376
         cases e376
         replace p376 := eq_true p376;replace q376 := eq_true q376
         go_wp2
         go_roundg k2
         case measure => have := HJ1.out; have := HK2.out; omega
         case rel => exact ⟨(wrap64 (x3_2 + 1)), (by first | rfl | (simp; done) | (simp [*]; done)), H', ⟨by have := HJ1.out; have := HK2.out; omega⟩, by repeat (first | exact Drawn0.refl _ | apply Drawn0.step)⟩
       (rw [if_neg c7] at H;exact absurd H (by simp))
      ·rw [if_neg c6] at H;have c6b0 : decide (x3_2 < (l0.length : Int)) = false := decide_eq_false c6;clear c6;obtain rfl := Option.some.inj H
       go_wp2
       go_ret
       exact ⟨by first | rfl | (simp; done) | (simp [*]; done), by repeat (first | exact Drawn0.refl _ | apply Drawn0.step)⟩
-- NOT PRINTED: function 70 (guillotine_sized)
-- NOT PRINTED: function 66 (lexer_run)
-- GIVEN: function 50 (lexer_Name)
-- NOT PRINTED: function 80 (guillotine_node)
-- NOT PRINTED: function 92 (slices_IndexFunc_int_int)
-- NOT PRINTED: function 81 (slices_ContainsFunc_int_int)
end
end Go.Proofs.Ytdnjagfbhppmbaa.PA
