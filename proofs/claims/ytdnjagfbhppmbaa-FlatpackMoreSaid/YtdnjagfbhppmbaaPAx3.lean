import Derived.Test.YtdnjagfbhppmbaaPAx0
namespace Go.Proofs.Ytdnjagfbhppmbaa.PA
open Go.RowKit Go.Proofs.YtdnjagfbhppmbaaW.PrintWords Go.Proofs.YtdnjagfbhppmbaaW.PrintLast Go.Proofs.YtdnjagfbhppmbaaW.PrintMore
attribute [local go_sem] max2_int min2_int max_two min_two max_three min_three max_four min_four
set_option linter.unusedVariables false
set_option linter.unusedSimpArgs false
mutual
def gangsawref25_Small.j0 : Nat → List (S36) → Bool → Option (Bool)
 | 0, _, _ => none
 | k + 1, x2, x26 => if x26 = true then (some false) else (gangsawref25_Small.l0 k x2 0)
def gangsawref25_Small.l0 : Nat → List (S36) → Int → Option (Bool)
 | 0, _, _ => none
 | k + 1, x2, x7 => if x7 < (x2.length : Int) then (if 0 ≤ x7 then (if (((rd_T36 x2 x7).f0).size : Int) > 100 then (some false) else (gangsawref25_Small.l0 k x2 (wrap64 (x7 + 1)))) else (none)) else (some true)
end
def gangsawref25_Small.f (k : Nat) (a0 : Int) (a1 : Int) (l2 : List (S36)) : Option (Bool) := if a0 > 14 then (if a0 ≤ 40 then (gangsawref25_Small.j0 k l2 true) else (if a1 > 14 then (if a1 ≤ 40 then (gangsawref25_Small.j0 k l2 true) else (gangsawref25_Small.j0 k l2 (decide ((l2.length : Int) > 10)))) else (gangsawref25_Small.j0 k l2 (decide ((l2.length : Int) > 10))))) else (if a1 > 14 then (if a1 ≤ 40 then (gangsawref25_Small.j0 k l2 true) else (gangsawref25_Small.j0 k l2 (decide ((l2.length : Int) > 10)))) else (gangsawref25_Small.j0 k l2 (decide ((l2.length : Int) > 10))))
theorem gangsawref25_Small.mono_l : ∀ k, (∀ y0 y1, LeO (gangsawref25_Small.j0 k y0 y1) (gangsawref25_Small.j0 (k + 1) y0 y1)) ∧ (∀ y0 y1, LeO (gangsawref25_Small.l0 k y0 y1) (gangsawref25_Small.l0 (k + 1) y0 y1))
 | 0 => ⟨fun _ _ r h => by simp [gangsawref25_Small.j0] at h, fun _ _ r h => by simp [gangsawref25_Small.l0] at h⟩
 | k + 1 => by
  obtain ⟨ih0, ih1⟩ := gangsawref25_Small.mono_l k
  refine ⟨?_, ?_⟩
  ·intro y0 y1
   unfold gangsawref25_Small.j0
   repeat' first
   | (with_reducible exact ih0 _ _)
   | (with_reducible exact ih1 _ _)
   | (with_reducible exact LeO.refl _)
   | (with_reducible exact LeO.none _)
   | (with_reducible refine LeO.ite ?_ ?_)
   | (with_reducible refine LeO.bind ?_ (fun _ => ?_))
   | exact ih0 _ _
   | exact ih1 _ _
   | exact LeO.none _
   | refine LeO.ite ?_ ?_
   | refine LeO.bind ?_ (fun _ => ?_)
  ·intro y0 y1
   unfold gangsawref25_Small.l0
   repeat' first
   | (with_reducible exact ih0 _ _)
   | (with_reducible exact ih1 _ _)
   | (with_reducible exact LeO.refl _)
   | (with_reducible exact LeO.none _)
   | (with_reducible refine LeO.ite ?_ ?_)
   | (with_reducible refine LeO.bind ?_ (fun _ => ?_))
   | exact ih0 _ _
   | exact ih1 _ _
   | exact LeO.none _
   | refine LeO.ite ?_ ?_
   | refine LeO.bind ?_ (fun _ => ?_)
theorem gangsawref25_Small.mono : ∀ a0 a1 a2 k, LeO (gangsawref25_Small.f k a0 a1 a2) (gangsawref25_Small.f (k + 1) a0 a1 a2) := by
 intro a0 a1 a2 k;obtain ⟨ih0, ih1⟩ := gangsawref25_Small.mono_l k
 unfold gangsawref25_Small.f
 repeat' first
   | (with_reducible exact ih0 _ _)
   | (with_reducible exact ih1 _ _)
   | (with_reducible exact LeO.refl _)
   | (with_reducible exact LeO.none _)
   | (with_reducible refine LeO.ite ?_ ?_)
   | (with_reducible refine LeO.bind ?_ (fun _ => ?_))
   | exact ih0 _ _
   | exact ih1 _ _
   | exact LeO.none _
   | refine LeO.ite ?_ ?_
   | refine LeO.bind ?_ (fun _ => ?_)
set_option maxHeartbeats 8000000 in
set_option maxRecDepth 100000 in
theorem gangsawref25_Small.calls (k : Nat) (a0 : Int) (a1 : Int) (A2 : Option Addr) (c2 : Nat) (l2 : List (S36)) (r : Bool) (w : World) (hr2 : Kd.C k36 w A2 l2.length l2) (hc2 : l2.length ≤ c2) (h : gangsawref25_Small.f k a0 a1 l2 = some r) :
  Calls Try.prog 12 #[.int .i64 a0, .int .i64 a1, .slice A2 l2.length c2] w fun e w' => e = .returned (.bool r) ∧ Drawn0 w w' := by
 have HR2 := am hr2;have HC2 := am hc2;clear hr2 hc2;have H : (if a0 > 14 then (if a0 ≤ 40 then (gangsawref25_Small.j0 k l2 true) else (if a1 > 14 then (if a1 ≤ 40 then (gangsawref25_Small.j0 k l2 true) else (gangsawref25_Small.j0 k l2 (decide ((l2.length : Int) > 10)))) else (gangsawref25_Small.j0 k l2 (decide ((l2.length : Int) > 10))))) else (if a1 > 14 then (if a1 ≤ 40 then (gangsawref25_Small.j0 k l2 true) else (gangsawref25_Small.j0 k l2 (decide ((l2.length : Int) > 10)))) else (gangsawref25_Small.j0 k l2 (decide ((l2.length : Int) > 10))))) = some r := h;clear h;have HC4 := am H;clear H
 go_enter Try.func12, Try.ntmps12
 go_upto_region 1 with (fail)
 go_cut [26] (fun v26 wc => ∃ (kq : Nat) (x26_3 : Bool), v26 = .bool x26_3 ∧ Aside0 (gangsawref25_Small.j0 kq l2 x26_3 = some r) ∧ Aside0 (kq ≤ k) ∧ Drawn0 w wc)
 case first =>
  have H := HC4.out;clear HC4;by_cases c5 : a0 > 14
  ·rw [if_pos c5] at H;have c5b0 : decide (14 < a0) = true := decide_eq_true c5;clear c5;(first | rw [c5b0] | (simp only [i64_w, i32_w]; rw [c5b0]) | skip)
   by_cases c6 : a0 ≤ 40
   ·rw [if_pos c6] at H;have c6b0 : decide (a0 ≤ 40) = true := decide_eq_true c6;clear c6;have H' := am H;clear H
    go_wp2
    go_meet
    case rel => exact ⟨_, (true), (by first | rfl | (simp; done) | (simp [*]; done)), H', ⟨by first | omega | exact Nat.le_refl _⟩, by repeat (first | exact Drawn0.refl _ | apply Drawn0.step)⟩
   ·rw [if_neg c6] at H;have c6b0 : decide (a0 ≤ 40) = false := decide_eq_false c6;clear c6;by_cases c7 : a1 > 14
    ·rw [if_pos c7] at H;have c7b0 : decide (14 < a1) = true := decide_eq_true c7;clear c7;by_cases c8 : a1 ≤ 40
     ·rw [if_pos c8] at H;have c8b0 : decide (a1 ≤ 40) = true := decide_eq_true c8;clear c8;have H' := am H;clear H
      go_wp2
      go_meet
      case rel => exact ⟨_, (true), (by first | rfl | (simp; done) | (simp [*]; done)), H', ⟨by first | omega | exact Nat.le_refl _⟩, by repeat (first | exact Drawn0.refl _ | apply Drawn0.step)⟩
     ·rw [if_neg c8] at H;have c8b0 : decide (a1 ≤ 40) = false := decide_eq_false c8;clear c8;have H' := am H;clear H
      go_wp2
      go_meet
      case rel => exact ⟨_, (decide ((l2.length : Int) > 10)), (by first | rfl | (simp; done) | (simp [*]; done)), H', ⟨by first | omega | exact Nat.le_refl _⟩, by repeat (first | exact Drawn0.refl _ | apply Drawn0.step)⟩
    ·rw [if_neg c7] at H;have c7b0 : decide (14 < a1) = false := decide_eq_false c7;clear c7;have H' := am H;clear H
     go_wp2
     go_meet
     case rel => exact ⟨_, (decide ((l2.length : Int) > 10)), (by first | rfl | (simp; done) | (simp [*]; done)), H', ⟨by first | omega | exact Nat.le_refl _⟩, by repeat (first | exact Drawn0.refl _ | apply Drawn0.step)⟩
  ·rw [if_neg c5] at H;have c5b0 : decide (14 < a0) = false := decide_eq_false c5;clear c5;(first | rw [c5b0] | (simp only [i64_w, i32_w]; rw [c5b0]) | skip)
   by_cases c9 : a1 > 14
   ·rw [if_pos c9] at H;have c9b0 : decide (14 < a1) = true := decide_eq_true c9;clear c9;by_cases c10 : a1 ≤ 40
    ·rw [if_pos c10] at H;have c10b0 : decide (a1 ≤ 40) = true := decide_eq_true c10;clear c10;have H' := am H;clear H
     go_wp2
     go_meet
     case rel => exact ⟨_, (true), (by first | rfl | (simp; done) | (simp [*]; done)), H', ⟨by first | omega | exact Nat.le_refl _⟩, by repeat (first | exact Drawn0.refl _ | apply Drawn0.step)⟩
    ·rw [if_neg c10] at H;have c10b0 : decide (a1 ≤ 40) = false := decide_eq_false c10;clear c10;have H' := am H;clear H
     go_wp2
     go_meet
     case rel => exact ⟨_, (decide ((l2.length : Int) > 10)), (by first | rfl | (simp; done) | (simp [*]; done)), H', ⟨by first | omega | exact Nat.le_refl _⟩, by repeat (first | exact Drawn0.refl _ | apply Drawn0.step)⟩
   ·rw [if_neg c9] at H;have c9b0 : decide (14 < a1) = false := decide_eq_false c9;clear c9;have H' := am H;clear H
    go_wp2
    go_meet
    case rel => exact ⟨_, (decide ((l2.length : Int) > 10)), (by first | rfl | (simp; done) | (simp [*]; done)), H', ⟨by first | omega | exact Nat.le_refl _⟩, by repeat (first | exact Drawn0.refl _ | apply Drawn0.step)⟩
 case rest =>
  clear HC4
  try clear c1
  try clear c2
  try clear p2
  try clear c5
  try clear c5b0
  try clear c6
  try clear c6b0
  try clear c7
  try clear c7b0
  try clear c8
  try clear c8b0
  try clear c9
  try clear c9b0
  try clear c10
  try clear c10b0
  obtain ⟨kq, x26_3, rfl, HA, HJ3, ⟨mc3, rfl⟩⟩ := hcut
  cases kq with
  | zero => exact absurd HA.out (by simp [gangsawref25_Small.j0])
  | succ kj3 =>
   have H := HA.out;clear HA;simp only [gangsawref25_Small.j0] at H;by_cases c11 : x26_3 = true
   ·subst c11
    have H1 : (some false) = some r := by rw [if_pos rfl] at H; exact H
    clear H;have H := H1;clear H1;obtain rfl := Option.some.inj H
    go_wp2
    go_ret
    exact ⟨by first | rfl | (simp; done) | (simp [*]; done), by repeat (first | exact Drawn0.refl _ | apply Drawn0.step)⟩
   ·replace c11 := Bool.eq_false_iff.mpr c11;subst c11
    have H1 : (gangsawref25_Small.l0 kj3 l2 0) = some r := by rw [if_neg (show ¬ (false = true) by decide)] at H; exact H
    clear H;have H := H1;clear H1;have H' := am H;clear H
    go_wp2
    go_loopg [7] kj3 (fun kq v7 w' => ∃ (x7_2 : Int), v7 = .int .i64 x7_2 ∧ Aside0 (gangsawref25_Small.l0 kq l2 x7_2 = some r) ∧ Aside0 (kq ≤ kj3) ∧ Drawn0 w w')
    case atStart => exact ⟨(0), (by first | rfl | (simp; done) | (simp [*]; done)), H', ⟨Nat.le_refl _⟩, by repeat (first | exact Drawn0.refl _ | apply Drawn0.step)⟩
    case round =>
     clear H'
     try clear c1
     try clear c2
     try clear p2
     try clear c3
     try clear c5
     try clear c5b0
     try clear c6
     try clear c6b0
     try clear c7
     try clear c7b0
     try clear c8
     try clear c8b0
     try clear c9
     try clear c9b0
     try clear c10
     try clear c10b0
     try clear c11
     try clear p2
     obtain ⟨x7_2, rfl, HA, HK2, ⟨m2, rfl⟩⟩ := hrel
     cases gk with
     | zero => exact absurd HA.out (by simp [gangsawref25_Small.l0])
     | succ k2 =>
      have H := HA.out;clear HA;simp only [gangsawref25_Small.l0] at H;by_cases c12 : x7_2 < (l2.length : Int)
      ·rw [if_pos c12] at H;have c12b0 : decide (x7_2 < (l2.length : Int)) = true := decide_eq_true c12;clear c12;by_cases c13 : 0 ≤ x7_2
       ·rw [if_pos c13] at H;have c13b0 : decide (0 ≤ x7_2) = true := decide_eq_true c13;clear c13;by_cases c14 : (((rd_T36 l2 x7_2).f0).size : Int) > 100
        ·rw [if_pos c14] at H;have c14b0 : decide (100 < (((rd_T36 l2 x7_2).f0).size : Int)) = true := decide_eq_true c14;have c14b1 : decide (100 < ((rd_T36 l2 x7_2).f0).size) = true := decide_eq_true (by omega);clear c14;obtain rfl := Option.some.inj H;have p149 : 0 ≤ (x7_2 : Int) := of_decide_eq_true (by first | (with_reducible assumption) | assumption);have q149 : x7_2 < (l2.length : Int) := of_decide_eq_true (by first | (with_reducible assumption) | assumption);obtain ⟨ad149, e149, hx149_0, hx149_1, hx149_2, hx149_3, hx149_4, hx149_5, hx149_6⟩ := at_T36 HR2.out x7_2 p149 q149
         cases e149
         replace p149 := eq_true p149;replace q149 := eq_true q149
         go_wp2
         go_ret
         exact ⟨by first | rfl | (simp; done) | (simp [*]; done), by repeat (first | exact Drawn0.refl _ | apply Drawn0.step)⟩
        ·rw [if_neg c14] at H;have c14b0 : decide (100 < (((rd_T36 l2 x7_2).f0).size : Int)) = false := decide_eq_false c14;have c14b1 : decide (100 < ((rd_T36 l2 x7_2).f0).size) = false := decide_eq_false (by omega);clear c14;have H' := am H;clear H;have p149 : 0 ≤ (x7_2 : Int) := of_decide_eq_true (by first | (with_reducible assumption) | assumption);have q149 : x7_2 < (l2.length : Int) := of_decide_eq_true (by first | (with_reducible assumption) | assumption);obtain ⟨ad149, e149, hx149_0, hx149_1, hx149_2, hx149_3, hx149_4, hx149_5, hx149_6⟩ := at_T36 HR2.out x7_2 p149 q149
         cases e149
         replace p149 := eq_true p149;replace q149 := eq_true q149
         go_wp2
         go_roundg k2
         case measure => have := HJ3.out; have := HK2.out; omega
         case rel => exact ⟨(wrap64 (x7_2 + 1)), (by first | rfl | (simp; done) | (simp [*]; done)), H', ⟨by have := HJ3.out; have := HK2.out; omega⟩, by repeat (first | exact Drawn0.refl _ | apply Drawn0.step)⟩
       (rw [if_neg c13] at H;exact absurd H (by simp))
      ·rw [if_neg c12] at H;have c12b0 : decide (x7_2 < (l2.length : Int)) = false := decide_eq_false c12;clear c12;obtain rfl := Option.some.inj H
       go_wp2
       go_ret
       exact ⟨by first | rfl | (simp; done) | (simp [*]; done), by repeat (first | exact Drawn0.refl _ | apply Drawn0.step)⟩
end Go.Proofs.Ytdnjagfbhppmbaa.PA
