import Derived.Test.YtdnjagfbhppmbaaPAx3
import Derived.WalkLawsBesides
namespace Go.Proofs.Ytdnjagfbhppmbaa.PA
open Go.RowKit Go.Proofs.YtdnjagfbhppmbaaW.PrintWords Go.Proofs.YtdnjagfbhppmbaaW.PrintLast Go.Proofs.YtdnjagfbhppmbaaW.PrintMore
attribute [local go_sem] max2_int min2_int max_two min_two max_three min_three max_four min_four
set_option linter.unusedVariables false
set_option linter.unusedSimpArgs false
mutual
def gangsawref25_Check.j0 : Nat → List (S36) → Bool → Option (Int)
 | 0, _, _ => none
 | k + 1, x2, x25 => if x25 = true then (some 6) else (if (x2.length : Int) > 6 then (some 7) else (gangsawref25_Check.l0 k x2 0))
def gangsawref25_Check.l0 : Nat → List (S36) → Int → Option (Int)
 | 0, _, _ => none
 | k + 1, x2, x9 => if x9 < (x2.length : Int) then (if 0 ≤ x9 then ((gangsawref09_Name.f k ((rd_T36 x2 x9).f0)).bind fun t159 => (if t159 = true then (gangsawref25_Check.l0 k x2 (wrap64 (x9 + 1))) else (some 4))) else (none)) else (gangsawref25_Check.l1 k x2 0)
def gangsawref25_Check.l1 : Nat → List (S36) → Int → Option (Int)
 | 0, _, _ => none
 | k + 1, x2, x10 => if x10 < (x2.length : Int) then (if 0 ≤ x10 then ((gangsawref25_in.f ((rd_T36 x2 x10).f1.f0) 1 40).bind fun t161 => (if t161 = true then ((gangsawref25_in.f ((rd_T36 x2 x10).f1.f1) 1 40).bind fun t163 => (if t163 = true then (if ((rd_T36 x2 x10).f2) < 0 then (some 6) else (if ((rd_T36 x2 x10).f2) > 1000000000 then (some 6) else (gangsawref25_Check.l1 k x2 (wrap64 (x10 + 1))))) else (some 6))) else (some 6))) else (none)) else (gangsawref25_Check.l2 k x2 0)
def gangsawref25_Check.l2 : Nat → List (S36) → Int → Option (Int)
 | 0, _, _ => none
 | k + 1, x2, x11 => if x11 < (x2.length : Int) then (if 0 ≤ x11 then (if ((rd_T36 x2 x11).f1.f2) = 1 then (gangsawref25_Check.l2 k x2 (wrap64 (x11 + 1))) else (some 1)) else (none)) else (gangsawref25_Check.l3 k x2 1)
def gangsawref25_Check.l3 : Nat → List (S36) → Int → Option (Int)
 | 0, _, _ => none
 | k + 1, x2, x12 => if x12 < (x2.length : Int) then (if 0 ≤ (wrap64 (x12 - 1)) then (if (wrap64 (x12 - 1)) < (x2.length : Int) then (if 0 ≤ x12 then (if ((Op.bytesLess (((rd_T36 x2 (wrap64 (x12 - 1))).f0).toList) (((rd_T36 x2 x12).f0).toList)) = true) then (gangsawref25_Check.l3 k x2 (wrap64 (x12 + 1))) else (some 5)) else (none)) else (none)) else (none)) else (some 0)
end
def gangsawref25_Check.f (k : Nat) (a0 : Int) (a1 : Int) (l2 : List (S36)) (a3 : Int) : Option (Int) := (gangsawref25_in.f a0 1 40).bind fun t155 => (if t155 = true then ((gangsawref25_in.f a1 1 40).bind fun t156 => (if t156 = true then ((gangsawref25_in.f a3 0 40).bind fun t157 => (gangsawref25_Check.j0 k l2 (!t157))) else (gangsawref25_Check.j0 k l2 true))) else (gangsawref25_Check.j0 k l2 true))
set_option maxHeartbeats 8000000 in
set_option maxRecDepth 100000 in
theorem gangsawref25_Check.calls (k : Nat) (a0 : Int) (a1 : Int) (A2 : Option Addr) (c2 : Nat) (l2 : List (S36)) (a3 : Int) (r : Int) (w : World) (hr2 : Kd.C k36 w A2 l2.length l2) (hc2 : l2.length ≤ c2) (h : gangsawref25_Check.f k a0 a1 l2 a3 = some r) :
  Calls Try.prog 13 #[.int .i64 a0, .int .i64 a1, .slice A2 l2.length c2, .int .i64 a3] w fun e w' => e = .returned (.int .i64 r) ∧ Drawn0 w w' := by
 have HR2 := am hr2;have HC2 := am hc2;clear hr2 hc2;have H : ((gangsawref25_in.f a0 1 40).bind fun t155 => (if t155 = true then ((gangsawref25_in.f a1 1 40).bind fun t156 => (if t156 = true then ((gangsawref25_in.f a3 0 40).bind fun t157 => (gangsawref25_Check.j0 k l2 (!t157))) else (gangsawref25_Check.j0 k l2 true))) else (gangsawref25_Check.j0 k l2 true))) = some r := h;clear h;have HC5 := am H;clear H
 go_enter Try.func13, Try.ntmps13
 go_upto_region 1 with (fail)
 repeat (go_quiet (fail); go_upto_region 1 with (fail))
 go_cut [25] (fun v25 wc => ∃ (kq : Nat) (x25_4 : Bool), v25 = .bool x25_4 ∧ Aside0 (gangsawref25_Check.j0 kq l2 x25_4 = some r) ∧ Aside0 (kq ≤ k) ∧ Drawn0 w wc)
 case first =>
  have H := HC5.out;clear HC5;replace H := Option.bind_eq_some_iff.mp H;obtain ⟨t155, A60, H⟩ := H;replace H : (if t155 = true then ((gangsawref25_in.f a1 1 40).bind fun t156 => (if t156 = true then ((gangsawref25_in.f a3 0 40).bind fun t157 => (gangsawref25_Check.j0 k l2 (!t157))) else (gangsawref25_Check.j0 k l2 true))) else (gangsawref25_Check.j0 k l2 true)) = some r := H;have A6 := am A60;clear A60;by_cases c7 : t155 = true
  ·subst c7
   have H1 : ((gangsawref25_in.f a1 1 40).bind fun t156 => (if t156 = true then ((gangsawref25_in.f a3 0 40).bind fun t157 => (gangsawref25_Check.j0 k l2 (!t157))) else (gangsawref25_Check.j0 k l2 true))) = some r := by rw [if_pos rfl] at H; exact H
   clear H;have H := H1;clear H1;replace H := Option.bind_eq_some_iff.mp H;obtain ⟨t156, A80, H⟩ := H;replace H : (if t156 = true then ((gangsawref25_in.f a3 0 40).bind fun t157 => (gangsawref25_Check.j0 k l2 (!t157))) else (gangsawref25_Check.j0 k l2 true)) = some r := H;have A8 := am A80;clear A80;by_cases c9 : t156 = true
   ·subst c9
    have H1 : ((gangsawref25_in.f a3 0 40).bind fun t157 => (gangsawref25_Check.j0 k l2 (!t157))) = some r := by rw [if_pos rfl] at H; exact H
    clear H;have H := H1;clear H1;replace H := Option.bind_eq_some_iff.mp H;obtain ⟨t157, A100, H⟩ := H;replace H : (gangsawref25_Check.j0 k l2 (!t157)) = some r := H;have A10 := am A100;clear A100;have H' := am H;clear H
    go_wp2_with (first | (go_at_call 32; (with_reducible refine (gangsawref25_in.calls a0 1 40 true _ A6.out).mono ?_); rintro e w' ⟨rfl, ⟨nd, rfl⟩⟩; (try first | exact ⟨rfl, _, World.drewN_drewN _ _ _⟩ | exact ⟨rfl, _, Eq.trans (World.drewN_drewN _ _ _) (congrArg (World.drewN _) (Nat.add_assoc _ _ _))⟩)) | (go_at_call 32; (with_reducible refine (gangsawref25_in.calls a1 1 40 true _ A8.out).mono ?_); rintro e w' ⟨rfl, ⟨nd, rfl⟩⟩; (try first | exact ⟨rfl, _, World.drewN_drewN _ _ _⟩ | exact ⟨rfl, _, Eq.trans (World.drewN_drewN _ _ _) (congrArg (World.drewN _) (Nat.add_assoc _ _ _))⟩)) | (go_at_call 32; (with_reducible refine (gangsawref25_in.calls a3 0 40 t157 _ A10.out).mono ?_); rintro e w' ⟨rfl, ⟨nd, rfl⟩⟩; (try first | exact ⟨rfl, _, World.drewN_drewN _ _ _⟩ | exact ⟨rfl, _, Eq.trans (World.drewN_drewN _ _ _) (congrArg (World.drewN _) (Nat.add_assoc _ _ _))⟩)))
    repeat (go_quiet (first | (go_at_call 32; (with_reducible refine (gangsawref25_in.calls a0 1 40 true _ A6.out).mono ?_); rintro e w' ⟨rfl, ⟨nd, rfl⟩⟩; (try first | exact ⟨rfl, _, World.drewN_drewN _ _ _⟩ | exact ⟨rfl, _, Eq.trans (World.drewN_drewN _ _ _) (congrArg (World.drewN _) (Nat.add_assoc _ _ _))⟩)) | (go_at_call 32; (with_reducible refine (gangsawref25_in.calls a1 1 40 true _ A8.out).mono ?_); rintro e w' ⟨rfl, ⟨nd, rfl⟩⟩; (try first | exact ⟨rfl, _, World.drewN_drewN _ _ _⟩ | exact ⟨rfl, _, Eq.trans (World.drewN_drewN _ _ _) (congrArg (World.drewN _) (Nat.add_assoc _ _ _))⟩)) | (go_at_call 32; (with_reducible refine (gangsawref25_in.calls a3 0 40 t157 _ A10.out).mono ?_); rintro e w' ⟨rfl, ⟨nd, rfl⟩⟩; (try first | exact ⟨rfl, _, World.drewN_drewN _ _ _⟩ | exact ⟨rfl, _, Eq.trans (World.drewN_drewN _ _ _) (congrArg (World.drewN _) (Nat.add_assoc _ _ _))⟩))); try go_wp2_with (first | (go_at_call 32; (with_reducible refine (gangsawref25_in.calls a0 1 40 true _ A6.out).mono ?_); rintro e w' ⟨rfl, ⟨nd, rfl⟩⟩; (try first | exact ⟨rfl, _, World.drewN_drewN _ _ _⟩ | exact ⟨rfl, _, Eq.trans (World.drewN_drewN _ _ _) (congrArg (World.drewN _) (Nat.add_assoc _ _ _))⟩)) | (go_at_call 32; (with_reducible refine (gangsawref25_in.calls a1 1 40 true _ A8.out).mono ?_); rintro e w' ⟨rfl, ⟨nd, rfl⟩⟩; (try first | exact ⟨rfl, _, World.drewN_drewN _ _ _⟩ | exact ⟨rfl, _, Eq.trans (World.drewN_drewN _ _ _) (congrArg (World.drewN _) (Nat.add_assoc _ _ _))⟩)) | (go_at_call 32; (with_reducible refine (gangsawref25_in.calls a3 0 40 t157 _ A10.out).mono ?_); rintro e w' ⟨rfl, ⟨nd, rfl⟩⟩; (try first | exact ⟨rfl, _, World.drewN_drewN _ _ _⟩ | exact ⟨rfl, _, Eq.trans (World.drewN_drewN _ _ _) (congrArg (World.drewN _) (Nat.add_assoc _ _ _))⟩))))
    go_meet
    case rel => exact ⟨_, (!t157), (by first | rfl | (simp; done) | (simp [*]; done)), H', ⟨by first | omega | exact Nat.le_refl _⟩, by repeat (first | exact Drawn0.refl _ | apply Drawn0.step)⟩
   ·replace c9 := Bool.eq_false_iff.mpr c9;subst c9
    have H1 : (gangsawref25_Check.j0 k l2 true) = some r := by rw [if_neg (show ¬ (false = true) by decide)] at H; exact H
    clear H;have H := H1;clear H1;have H' := am H;clear H
    go_wp2_with (first | (go_at_call 32; (with_reducible refine (gangsawref25_in.calls a0 1 40 true _ A6.out).mono ?_); rintro e w' ⟨rfl, ⟨nd, rfl⟩⟩; (try first | exact ⟨rfl, _, World.drewN_drewN _ _ _⟩ | exact ⟨rfl, _, Eq.trans (World.drewN_drewN _ _ _) (congrArg (World.drewN _) (Nat.add_assoc _ _ _))⟩)) | (go_at_call 32; (with_reducible refine (gangsawref25_in.calls a1 1 40 false _ A8.out).mono ?_); rintro e w' ⟨rfl, ⟨nd, rfl⟩⟩; (try first | exact ⟨rfl, _, World.drewN_drewN _ _ _⟩ | exact ⟨rfl, _, Eq.trans (World.drewN_drewN _ _ _) (congrArg (World.drewN _) (Nat.add_assoc _ _ _))⟩)))
    repeat (go_quiet (first | (go_at_call 32; (with_reducible refine (gangsawref25_in.calls a0 1 40 true _ A6.out).mono ?_); rintro e w' ⟨rfl, ⟨nd, rfl⟩⟩; (try first | exact ⟨rfl, _, World.drewN_drewN _ _ _⟩ | exact ⟨rfl, _, Eq.trans (World.drewN_drewN _ _ _) (congrArg (World.drewN _) (Nat.add_assoc _ _ _))⟩)) | (go_at_call 32; (with_reducible refine (gangsawref25_in.calls a1 1 40 false _ A8.out).mono ?_); rintro e w' ⟨rfl, ⟨nd, rfl⟩⟩; (try first | exact ⟨rfl, _, World.drewN_drewN _ _ _⟩ | exact ⟨rfl, _, Eq.trans (World.drewN_drewN _ _ _) (congrArg (World.drewN _) (Nat.add_assoc _ _ _))⟩))); try go_wp2_with (first | (go_at_call 32; (with_reducible refine (gangsawref25_in.calls a0 1 40 true _ A6.out).mono ?_); rintro e w' ⟨rfl, ⟨nd, rfl⟩⟩; (try first | exact ⟨rfl, _, World.drewN_drewN _ _ _⟩ | exact ⟨rfl, _, Eq.trans (World.drewN_drewN _ _ _) (congrArg (World.drewN _) (Nat.add_assoc _ _ _))⟩)) | (go_at_call 32; (with_reducible refine (gangsawref25_in.calls a1 1 40 false _ A8.out).mono ?_); rintro e w' ⟨rfl, ⟨nd, rfl⟩⟩; (try first | exact ⟨rfl, _, World.drewN_drewN _ _ _⟩ | exact ⟨rfl, _, Eq.trans (World.drewN_drewN _ _ _) (congrArg (World.drewN _) (Nat.add_assoc _ _ _))⟩))))
    go_meet
    case rel => exact ⟨_, (true), (by first | rfl | (simp; done) | (simp [*]; done)), H', ⟨by first | omega | exact Nat.le_refl _⟩, by repeat (first | exact Drawn0.refl _ | apply Drawn0.step)⟩
  ·replace c7 := Bool.eq_false_iff.mpr c7;subst c7
   have H1 : (gangsawref25_Check.j0 k l2 true) = some r := by rw [if_neg (show ¬ (false = true) by decide)] at H; exact H
   clear H;have H := H1;clear H1;have H' := am H;clear H
   go_wp2_with (first | (go_at_call 32; (with_reducible refine (gangsawref25_in.calls a0 1 40 false _ A6.out).mono ?_); rintro e w' ⟨rfl, ⟨nd, rfl⟩⟩; (try first | exact ⟨rfl, _, World.drewN_drewN _ _ _⟩ | exact ⟨rfl, _, Eq.trans (World.drewN_drewN _ _ _) (congrArg (World.drewN _) (Nat.add_assoc _ _ _))⟩)))
   repeat (go_quiet (first | (go_at_call 32; (with_reducible refine (gangsawref25_in.calls a0 1 40 false _ A6.out).mono ?_); rintro e w' ⟨rfl, ⟨nd, rfl⟩⟩; (try first | exact ⟨rfl, _, World.drewN_drewN _ _ _⟩ | exact ⟨rfl, _, Eq.trans (World.drewN_drewN _ _ _) (congrArg (World.drewN _) (Nat.add_assoc _ _ _))⟩))); try go_wp2_with (first | (go_at_call 32; (with_reducible refine (gangsawref25_in.calls a0 1 40 false _ A6.out).mono ?_); rintro e w' ⟨rfl, ⟨nd, rfl⟩⟩; (try first | exact ⟨rfl, _, World.drewN_drewN _ _ _⟩ | exact ⟨rfl, _, Eq.trans (World.drewN_drewN _ _ _) (congrArg (World.drewN _) (Nat.add_assoc _ _ _))⟩))))
   go_meet
   case rel => exact ⟨_, (true), (by first | rfl | (simp; done) | (simp [*]; done)), H', ⟨by first | omega | exact Nat.le_refl _⟩, by repeat (first | exact Drawn0.refl _ | apply Drawn0.step)⟩
 case rest =>
  clear HC5
  try clear c1
  try clear c2
  try clear p2
  try clear c7
  try clear c9
  obtain ⟨kq, x25_4, rfl, HA, HJ4, ⟨mc4, rfl⟩⟩ := hcut
  cases kq with
  | zero => exact absurd HA.out (by simp [gangsawref25_Check.j0])
  | succ kj4 =>
   have H := HA.out;clear HA;simp only [gangsawref25_Check.j0] at H;by_cases c11 : x25_4 = true
   ·subst c11
    have H1 : (some 6) = some r := by rw [if_pos rfl] at H; exact H
    clear H;have H := H1;clear H1;obtain rfl := Option.some.inj H
    go_wp2
    repeat (go_quiet (fail); try go_wp2)
    go_ret
    exact ⟨by first | rfl | (simp; done) | (simp [*]; done), by repeat (first | exact Drawn0.refl _ | apply Drawn0.step)⟩
   ·replace c11 := Bool.eq_false_iff.mpr c11;subst c11
    have H1 : (if (l2.length : Int) > 6 then (some 7) else (gangsawref25_Check.l0 kj4 l2 0)) = some r := by rw [if_neg (show ¬ (false = true) by decide)] at H; exact H
    clear H;have H := H1;clear H1;by_cases c12 : (l2.length : Int) > 6
    ·rw [if_pos c12] at H;have c12b0 : decide (6 < (l2.length : Int)) = true := decide_eq_true c12;have c12b1 : decide (6 < l2.length) = true := decide_eq_true (by omega);clear c12;obtain rfl := Option.some.inj H
     go_wp2
     repeat (go_quiet (fail); try go_wp2)
     go_ret
     exact ⟨by first | rfl | (simp; done) | (simp [*]; done), by repeat (first | exact Drawn0.refl _ | apply Drawn0.step)⟩
    ·rw [if_neg c12] at H;have c12b0 : decide (6 < (l2.length : Int)) = false := decide_eq_false c12;have c12b1 : decide (6 < l2.length) = false := decide_eq_false (by omega);clear c12;have H' := am H;clear H
     go_wp2
     repeat (go_quiet (fail); try go_wp2)
     go_loopg [9] kj4 (fun kq v9 w' => ∃ (x9_2 : Int), v9 = .int .i64 x9_2 ∧ Aside0 (gangsawref25_Check.l0 kq l2 x9_2 = some r) ∧ Aside0 (kq ≤ kj4) ∧ Drawn0 w w')
     case atStart => exact ⟨(0), (by first | rfl | (simp; done) | (simp [*]; done)), H', ⟨Nat.le_refl _⟩, by repeat (first | exact Drawn0.refl _ | apply Drawn0.step)⟩
     case round =>
      clear H'
      try clear c1
      try clear c2
      try clear p2
      try clear c4
      try clear c7
      try clear c9
      try clear c11
      try clear c12
      try clear c12b0
      try clear c12b1
      try clear p2
      obtain ⟨x9_2, rfl, HA, HK2, ⟨m2, rfl⟩⟩ := hrel
      cases gk with
      | zero => exact absurd HA.out (by simp [gangsawref25_Check.l0])
      | succ k2 =>
       have H := HA.out;clear HA;simp only [gangsawref25_Check.l0] at H;by_cases c13 : x9_2 < (l2.length : Int)
       ·rw [if_pos c13] at H;have c13b0 : decide (x9_2 < (l2.length : Int)) = true := decide_eq_true c13;clear c13;by_cases c14 : 0 ≤ x9_2
        ·rw [if_pos c14] at H;have c14b0 : decide (0 ≤ x9_2) = true := decide_eq_true c14;clear c14;replace H := Option.bind_eq_some_iff.mp H;obtain ⟨t159, A150, H⟩ := H;replace H : (if t159 = true then (gangsawref25_Check.l0 k2 l2 (wrap64 (x9_2 + 1))) else (some 4)) = some r := H;have A15 := am A150;clear A150;by_cases c16 : t159 = true
         ·subst c16
          have H1 : (gangsawref25_Check.l0 k2 l2 (wrap64 (x9_2 + 1))) = some r := by rw [if_pos rfl] at H; exact H
          clear H;have H := H1;clear H1;have H' := am H;clear H;have p158 : 0 ≤ (x9_2 : Int) := of_decide_eq_true (by first | (with_reducible assumption) | assumption);have q158 : x9_2 < (l2.length : Int) := of_decide_eq_true (by first | (with_reducible assumption) | assumption);obtain ⟨ad158, e158, hx158_0, hx158_1, hx158_2, hx158_3, hx158_4, hx158_5, hx158_6⟩ := at_T36 HR2.out x9_2 p158 q158
          cases e158
          replace p158 := eq_true p158;replace q158 := eq_true q158
          go_wp2_with (first | (go_at_call 33; (with_reducible refine (gangsawref09_Name.calls k2 ((rd_T36 l2 x9_2).f0) true _ A15.out).mono ?_); rintro e w' ⟨rfl, ⟨nd, rfl⟩⟩; (try first | exact ⟨rfl, _, World.drewN_drewN _ _ _⟩ | exact ⟨rfl, _, Eq.trans (World.drewN_drewN _ _ _) (congrArg (World.drewN _) (Nat.add_assoc _ _ _))⟩)))
          repeat (go_quiet (first | (go_at_call 33; (with_reducible refine (gangsawref09_Name.calls k2 ((rd_T36 l2 x9_2).f0) true _ A15.out).mono ?_); rintro e w' ⟨rfl, ⟨nd, rfl⟩⟩; (try first | exact ⟨rfl, _, World.drewN_drewN _ _ _⟩ | exact ⟨rfl, _, Eq.trans (World.drewN_drewN _ _ _) (congrArg (World.drewN _) (Nat.add_assoc _ _ _))⟩))); try go_wp2_with (first | (go_at_call 33; (with_reducible refine (gangsawref09_Name.calls k2 ((rd_T36 l2 x9_2).f0) true _ A15.out).mono ?_); rintro e w' ⟨rfl, ⟨nd, rfl⟩⟩; (try first | exact ⟨rfl, _, World.drewN_drewN _ _ _⟩ | exact ⟨rfl, _, Eq.trans (World.drewN_drewN _ _ _) (congrArg (World.drewN _) (Nat.add_assoc _ _ _))⟩))))
          go_roundg k2
          case measure => have := HJ4.out; have := HK2.out; omega
          case rel => exact ⟨(wrap64 (x9_2 + 1)), (by first | rfl | (simp; done) | (simp [*]; done)), H', ⟨by have := HJ4.out; have := HK2.out; omega⟩, by repeat (first | exact Drawn0.refl _ | apply Drawn0.step)⟩
         ·replace c16 := Bool.eq_false_iff.mpr c16;subst c16
          have H1 : (some 4) = some r := by rw [if_neg (show ¬ (false = true) by decide)] at H; exact H
          clear H;have H := H1;clear H1;obtain rfl := Option.some.inj H;have p158 : 0 ≤ (x9_2 : Int) := of_decide_eq_true (by first | (with_reducible assumption) | assumption);have q158 : x9_2 < (l2.length : Int) := of_decide_eq_true (by first | (with_reducible assumption) | assumption);obtain ⟨ad158, e158, hx158_0, hx158_1, hx158_2, hx158_3, hx158_4, hx158_5, hx158_6⟩ := at_T36 HR2.out x9_2 p158 q158
          cases e158
          replace p158 := eq_true p158;replace q158 := eq_true q158
          go_wp2_with (first | (go_at_call 33; (with_reducible refine (gangsawref09_Name.calls k2 ((rd_T36 l2 x9_2).f0) false _ A15.out).mono ?_); rintro e w' ⟨rfl, ⟨nd, rfl⟩⟩; (try first | exact ⟨rfl, _, World.drewN_drewN _ _ _⟩ | exact ⟨rfl, _, Eq.trans (World.drewN_drewN _ _ _) (congrArg (World.drewN _) (Nat.add_assoc _ _ _))⟩)))
          repeat (go_quiet (first | (go_at_call 33; (with_reducible refine (gangsawref09_Name.calls k2 ((rd_T36 l2 x9_2).f0) false _ A15.out).mono ?_); rintro e w' ⟨rfl, ⟨nd, rfl⟩⟩; (try first | exact ⟨rfl, _, World.drewN_drewN _ _ _⟩ | exact ⟨rfl, _, Eq.trans (World.drewN_drewN _ _ _) (congrArg (World.drewN _) (Nat.add_assoc _ _ _))⟩))); try go_wp2_with (first | (go_at_call 33; (with_reducible refine (gangsawref09_Name.calls k2 ((rd_T36 l2 x9_2).f0) false _ A15.out).mono ?_); rintro e w' ⟨rfl, ⟨nd, rfl⟩⟩; (try first | exact ⟨rfl, _, World.drewN_drewN _ _ _⟩ | exact ⟨rfl, _, Eq.trans (World.drewN_drewN _ _ _) (congrArg (World.drewN _) (Nat.add_assoc _ _ _))⟩))))
          go_ret
          exact ⟨by first | rfl | (simp; done) | (simp [*]; done), by repeat (first | exact Drawn0.refl _ | apply Drawn0.step)⟩
        (rw [if_neg c14] at H;exact absurd H (by simp))
       ·rw [if_neg c13] at H;have c13b0 : decide (x9_2 < (l2.length : Int)) = false := decide_eq_false c13;clear c13;have H' := am H;clear H
        go_wp2
        repeat (go_quiet (fail); try go_wp2)
        go_loopg [10] k2 (fun kq v10 w' => ∃ (x10_3 : Int), v10 = .int .i64 x10_3 ∧ Aside0 (gangsawref25_Check.l1 kq l2 x10_3 = some r) ∧ Aside0 (kq ≤ k2) ∧ Drawn0 w w')
        case atStart => exact ⟨(0), (by first | rfl | (simp; done) | (simp [*]; done)), H', ⟨Nat.le_refl _⟩, by repeat (first | exact Drawn0.refl _ | apply Drawn0.step)⟩
        case round =>
         clear H'
         try clear c1
         try clear p1
         try clear q1
         try clear hx1
         try clear c2
         try clear p2
         try clear c4
         try clear p6
         try clear c7
         try clear c9
         try clear c11
         try clear c12
         try clear c12b0
         try clear c12b1
         try clear c13
         try clear c13b0
         try clear c14
         try clear c14b0
         try clear p15
         try clear q15
         try clear hx15
         try clear c16
         try clear hx158_0
         try clear hx158_1
         try clear hx158_2
         try clear hx158_3
         try clear hx158_4
         try clear hx158_5
         try clear hx158_6
         try clear p158
         try clear p2
         try clear q158
         obtain ⟨x10_3, rfl, HA, HK3, ⟨m3, rfl⟩⟩ := hrel
         cases gk with
         | zero => exact absurd HA.out (by simp [gangsawref25_Check.l1])
         | succ k3 =>
          have H := HA.out;clear HA;simp only [gangsawref25_Check.l1] at H;by_cases c17 : x10_3 < (l2.length : Int)
          ·rw [if_pos c17] at H;have c17b0 : decide (x10_3 < (l2.length : Int)) = true := decide_eq_true c17;clear c17;by_cases c18 : 0 ≤ x10_3
           ·rw [if_pos c18] at H;have c18b0 : decide (0 ≤ x10_3) = true := decide_eq_true c18;clear c18;replace H := Option.bind_eq_some_iff.mp H;obtain ⟨t161, A190, H⟩ := H;replace H : (if t161 = true then ((gangsawref25_in.f ((rd_T36 l2 x10_3).f1.f1) 1 40).bind fun t163 => (if t163 = true then (if ((rd_T36 l2 x10_3).f2) < 0 then (some 6) else (if ((rd_T36 l2 x10_3).f2) > 1000000000 then (some 6) else (gangsawref25_Check.l1 k3 l2 (wrap64 (x10_3 + 1))))) else (some 6))) else (some 6)) = some r := H;have A19 := am A190;clear A190;by_cases c20 : t161 = true
            ·subst c20
             have H1 : ((gangsawref25_in.f ((rd_T36 l2 x10_3).f1.f1) 1 40).bind fun t163 => (if t163 = true then (if ((rd_T36 l2 x10_3).f2) < 0 then (some 6) else (if ((rd_T36 l2 x10_3).f2) > 1000000000 then (some 6) else (gangsawref25_Check.l1 k3 l2 (wrap64 (x10_3 + 1))))) else (some 6))) = some r := by rw [if_pos rfl] at H; exact H
             clear H;have H := H1;clear H1;replace H := Option.bind_eq_some_iff.mp H;obtain ⟨t163, A210, H⟩ := H;replace H : (if t163 = true then (if ((rd_T36 l2 x10_3).f2) < 0 then (some 6) else (if ((rd_T36 l2 x10_3).f2) > 1000000000 then (some 6) else (gangsawref25_Check.l1 k3 l2 (wrap64 (x10_3 + 1))))) else (some 6)) = some r := H;have A21 := am A210;clear A210;by_cases c22 : t163 = true
             ·subst c22
              have H1 : (if ((rd_T36 l2 x10_3).f2) < 0 then (some 6) else (if ((rd_T36 l2 x10_3).f2) > 1000000000 then (some 6) else (gangsawref25_Check.l1 k3 l2 (wrap64 (x10_3 + 1))))) = some r := by rw [if_pos rfl] at H; exact H
              clear H;have H := H1;clear H1;by_cases c23 : ((rd_T36 l2 x10_3).f2) < 0
              ·rw [if_pos c23] at H;have c23b0 : decide (((rd_T36 l2 x10_3).f2) < 0) = true := decide_eq_true c23;clear c23;obtain rfl := Option.some.inj H;have p160 : 0 ≤ (x10_3 : Int) := of_decide_eq_true (by first | (with_reducible assumption) | assumption);have q160 : x10_3 < (l2.length : Int) := of_decide_eq_true (by first | (with_reducible assumption) | assumption);obtain ⟨ad160, e160, hx160_0, hx160_1, hx160_2, hx160_3, hx160_4, hx160_5, hx160_6⟩ := at_T36 HR2.out x10_3 p160 q160
               cases e160
               replace p160 := eq_true p160;replace q160 := eq_true q160
               go_wp2_with (first | (go_at_call 32; (with_reducible refine (gangsawref25_in.calls ((rd_T36 l2 x10_3).f1.f0) 1 40 true _ A19.out).mono ?_); rintro e w' ⟨rfl, ⟨nd, rfl⟩⟩; (try first | exact ⟨rfl, _, World.drewN_drewN _ _ _⟩ | exact ⟨rfl, _, Eq.trans (World.drewN_drewN _ _ _) (congrArg (World.drewN _) (Nat.add_assoc _ _ _))⟩); have p162 : 0 ≤ (x10_3 : Int) := of_decide_eq_true (by first | (with_reducible assumption) | assumption); have q162 : x10_3 < (l2.length : Int) := of_decide_eq_true (by first | (with_reducible assumption) | assumption); obtain ⟨ad162, e162, hx162_0, hx162_1, hx162_2, hx162_3, hx162_4, hx162_5, hx162_6⟩ := at_T36 HR2.out x10_3 p162 q162; obtain rfl : ad160 = ad162 := (by injection e162); replace p162 := eq_true p162; replace q162 := eq_true q162) | (go_at_call 32; (with_reducible refine (gangsawref25_in.calls ((rd_T36 l2 x10_3).f1.f1) 1 40 true _ A21.out).mono ?_); rintro e w' ⟨rfl, ⟨nd, rfl⟩⟩; (try first | exact ⟨rfl, _, World.drewN_drewN _ _ _⟩ | exact ⟨rfl, _, Eq.trans (World.drewN_drewN _ _ _) (congrArg (World.drewN _) (Nat.add_assoc _ _ _))⟩); have p164 : 0 ≤ (x10_3 : Int) := of_decide_eq_true (by first | (with_reducible assumption) | assumption); have q164 : x10_3 < (l2.length : Int) := of_decide_eq_true (by first | (with_reducible assumption) | assumption); obtain ⟨ad164, e164, hx164_0, hx164_1, hx164_2, hx164_3, hx164_4, hx164_5, hx164_6⟩ := at_T36 HR2.out x10_3 p164 q164; obtain rfl : ad160 = ad164 := (by injection e164); replace p164 := eq_true p164; replace q164 := eq_true q164))
               repeat (go_quiet (first | (go_at_call 32; (with_reducible refine (gangsawref25_in.calls ((rd_T36 l2 x10_3).f1.f0) 1 40 true _ A19.out).mono ?_); rintro e w' ⟨rfl, ⟨nd, rfl⟩⟩; (try first | exact ⟨rfl, _, World.drewN_drewN _ _ _⟩ | exact ⟨rfl, _, Eq.trans (World.drewN_drewN _ _ _) (congrArg (World.drewN _) (Nat.add_assoc _ _ _))⟩); have p162 : 0 ≤ (x10_3 : Int) := of_decide_eq_true (by first | (with_reducible assumption) | assumption); have q162 : x10_3 < (l2.length : Int) := of_decide_eq_true (by first | (with_reducible assumption) | assumption); obtain ⟨ad162, e162, hx162_0, hx162_1, hx162_2, hx162_3, hx162_4, hx162_5, hx162_6⟩ := at_T36 HR2.out x10_3 p162 q162; obtain rfl : ad160 = ad162 := (by injection e162); replace p162 := eq_true p162; replace q162 := eq_true q162) | (go_at_call 32; (with_reducible refine (gangsawref25_in.calls ((rd_T36 l2 x10_3).f1.f1) 1 40 true _ A21.out).mono ?_); rintro e w' ⟨rfl, ⟨nd, rfl⟩⟩; (try first | exact ⟨rfl, _, World.drewN_drewN _ _ _⟩ | exact ⟨rfl, _, Eq.trans (World.drewN_drewN _ _ _) (congrArg (World.drewN _) (Nat.add_assoc _ _ _))⟩); have p164 : 0 ≤ (x10_3 : Int) := of_decide_eq_true (by first | (with_reducible assumption) | assumption); have q164 : x10_3 < (l2.length : Int) := of_decide_eq_true (by first | (with_reducible assumption) | assumption); obtain ⟨ad164, e164, hx164_0, hx164_1, hx164_2, hx164_3, hx164_4, hx164_5, hx164_6⟩ := at_T36 HR2.out x10_3 p164 q164; obtain rfl : ad160 = ad164 := (by injection e164); replace p164 := eq_true p164; replace q164 := eq_true q164)); try go_wp2_with (first | (go_at_call 32; (with_reducible refine (gangsawref25_in.calls ((rd_T36 l2 x10_3).f1.f0) 1 40 true _ A19.out).mono ?_); rintro e w' ⟨rfl, ⟨nd, rfl⟩⟩; (try first | exact ⟨rfl, _, World.drewN_drewN _ _ _⟩ | exact ⟨rfl, _, Eq.trans (World.drewN_drewN _ _ _) (congrArg (World.drewN _) (Nat.add_assoc _ _ _))⟩); have p162 : 0 ≤ (x10_3 : Int) := of_decide_eq_true (by first | (with_reducible assumption) | assumption); have q162 : x10_3 < (l2.length : Int) := of_decide_eq_true (by first | (with_reducible assumption) | assumption); obtain ⟨ad162, e162, hx162_0, hx162_1, hx162_2, hx162_3, hx162_4, hx162_5, hx162_6⟩ := at_T36 HR2.out x10_3 p162 q162; obtain rfl : ad160 = ad162 := (by injection e162); replace p162 := eq_true p162; replace q162 := eq_true q162) | (go_at_call 32; (with_reducible refine (gangsawref25_in.calls ((rd_T36 l2 x10_3).f1.f1) 1 40 true _ A21.out).mono ?_); rintro e w' ⟨rfl, ⟨nd, rfl⟩⟩; (try first | exact ⟨rfl, _, World.drewN_drewN _ _ _⟩ | exact ⟨rfl, _, Eq.trans (World.drewN_drewN _ _ _) (congrArg (World.drewN _) (Nat.add_assoc _ _ _))⟩); have p164 : 0 ≤ (x10_3 : Int) := of_decide_eq_true (by first | (with_reducible assumption) | assumption); have q164 : x10_3 < (l2.length : Int) := of_decide_eq_true (by first | (with_reducible assumption) | assumption); obtain ⟨ad164, e164, hx164_0, hx164_1, hx164_2, hx164_3, hx164_4, hx164_5, hx164_6⟩ := at_T36 HR2.out x10_3 p164 q164; obtain rfl : ad160 = ad164 := (by injection e164); replace p164 := eq_true p164; replace q164 := eq_true q164)))
               go_ret
               exact ⟨by first | rfl | (simp; done) | (simp [*]; done), by repeat (first | exact Drawn0.refl _ | apply Drawn0.step)⟩
              ·rw [if_neg c23] at H;have c23b0 : decide (((rd_T36 l2 x10_3).f2) < 0) = false := decide_eq_false c23;clear c23;by_cases c24 : ((rd_T36 l2 x10_3).f2) > 1000000000
               ·rw [if_pos c24] at H;have c24b0 : decide (1000000000 < ((rd_T36 l2 x10_3).f2)) = true := decide_eq_true c24;clear c24;obtain rfl := Option.some.inj H;have p160 : 0 ≤ (x10_3 : Int) := of_decide_eq_true (by first | (with_reducible assumption) | assumption);have q160 : x10_3 < (l2.length : Int) := of_decide_eq_true (by first | (with_reducible assumption) | assumption);obtain ⟨ad160, e160, hx160_0, hx160_1, hx160_2, hx160_3, hx160_4, hx160_5, hx160_6⟩ := at_T36 HR2.out x10_3 p160 q160
                cases e160
                replace p160 := eq_true p160;replace q160 := eq_true q160
                go_wp2_with (first | (go_at_call 32; (with_reducible refine (gangsawref25_in.calls ((rd_T36 l2 x10_3).f1.f0) 1 40 true _ A19.out).mono ?_); rintro e w' ⟨rfl, ⟨nd, rfl⟩⟩; (try first | exact ⟨rfl, _, World.drewN_drewN _ _ _⟩ | exact ⟨rfl, _, Eq.trans (World.drewN_drewN _ _ _) (congrArg (World.drewN _) (Nat.add_assoc _ _ _))⟩); have p162 : 0 ≤ (x10_3 : Int) := of_decide_eq_true (by first | (with_reducible assumption) | assumption); have q162 : x10_3 < (l2.length : Int) := of_decide_eq_true (by first | (with_reducible assumption) | assumption); obtain ⟨ad162, e162, hx162_0, hx162_1, hx162_2, hx162_3, hx162_4, hx162_5, hx162_6⟩ := at_T36 HR2.out x10_3 p162 q162; obtain rfl : ad160 = ad162 := (by injection e162); replace p162 := eq_true p162; replace q162 := eq_true q162) | (go_at_call 32; (with_reducible refine (gangsawref25_in.calls ((rd_T36 l2 x10_3).f1.f1) 1 40 true _ A21.out).mono ?_); rintro e w' ⟨rfl, ⟨nd, rfl⟩⟩; (try first | exact ⟨rfl, _, World.drewN_drewN _ _ _⟩ | exact ⟨rfl, _, Eq.trans (World.drewN_drewN _ _ _) (congrArg (World.drewN _) (Nat.add_assoc _ _ _))⟩); have p164 : 0 ≤ (x10_3 : Int) := of_decide_eq_true (by first | (with_reducible assumption) | assumption); have q164 : x10_3 < (l2.length : Int) := of_decide_eq_true (by first | (with_reducible assumption) | assumption); obtain ⟨ad164, e164, hx164_0, hx164_1, hx164_2, hx164_3, hx164_4, hx164_5, hx164_6⟩ := at_T36 HR2.out x10_3 p164 q164; obtain rfl : ad160 = ad164 := (by injection e164); replace p164 := eq_true p164; replace q164 := eq_true q164; have p165 : 0 ≤ (x10_3 : Int) := of_decide_eq_true (by first | (with_reducible assumption) | assumption); have q165 : x10_3 < (l2.length : Int) := of_decide_eq_true (by first | (with_reducible assumption) | assumption); obtain ⟨ad165, e165, hx165_0, hx165_1, hx165_2, hx165_3, hx165_4, hx165_5, hx165_6⟩ := at_T36 HR2.out x10_3 p165 q165; obtain rfl : ad160 = ad165 := (by injection e165); replace p165 := eq_true p165; replace q165 := eq_true q165))
                repeat (go_quiet (first | (go_at_call 32; (with_reducible refine (gangsawref25_in.calls ((rd_T36 l2 x10_3).f1.f0) 1 40 true _ A19.out).mono ?_); rintro e w' ⟨rfl, ⟨nd, rfl⟩⟩; (try first | exact ⟨rfl, _, World.drewN_drewN _ _ _⟩ | exact ⟨rfl, _, Eq.trans (World.drewN_drewN _ _ _) (congrArg (World.drewN _) (Nat.add_assoc _ _ _))⟩); have p162 : 0 ≤ (x10_3 : Int) := of_decide_eq_true (by first | (with_reducible assumption) | assumption); have q162 : x10_3 < (l2.length : Int) := of_decide_eq_true (by first | (with_reducible assumption) | assumption); obtain ⟨ad162, e162, hx162_0, hx162_1, hx162_2, hx162_3, hx162_4, hx162_5, hx162_6⟩ := at_T36 HR2.out x10_3 p162 q162; obtain rfl : ad160 = ad162 := (by injection e162); replace p162 := eq_true p162; replace q162 := eq_true q162) | (go_at_call 32; (with_reducible refine (gangsawref25_in.calls ((rd_T36 l2 x10_3).f1.f1) 1 40 true _ A21.out).mono ?_); rintro e w' ⟨rfl, ⟨nd, rfl⟩⟩; (try first | exact ⟨rfl, _, World.drewN_drewN _ _ _⟩ | exact ⟨rfl, _, Eq.trans (World.drewN_drewN _ _ _) (congrArg (World.drewN _) (Nat.add_assoc _ _ _))⟩); have p164 : 0 ≤ (x10_3 : Int) := of_decide_eq_true (by first | (with_reducible assumption) | assumption); have q164 : x10_3 < (l2.length : Int) := of_decide_eq_true (by first | (with_reducible assumption) | assumption); obtain ⟨ad164, e164, hx164_0, hx164_1, hx164_2, hx164_3, hx164_4, hx164_5, hx164_6⟩ := at_T36 HR2.out x10_3 p164 q164; obtain rfl : ad160 = ad164 := (by injection e164); replace p164 := eq_true p164; replace q164 := eq_true q164; have p165 : 0 ≤ (x10_3 : Int) := of_decide_eq_true (by first | (with_reducible assumption) | assumption); have q165 : x10_3 < (l2.length : Int) := of_decide_eq_true (by first | (with_reducible assumption) | assumption); obtain ⟨ad165, e165, hx165_0, hx165_1, hx165_2, hx165_3, hx165_4, hx165_5, hx165_6⟩ := at_T36 HR2.out x10_3 p165 q165; obtain rfl : ad160 = ad165 := (by injection e165); replace p165 := eq_true p165; replace q165 := eq_true q165)); try go_wp2_with (first | (go_at_call 32; (with_reducible refine (gangsawref25_in.calls ((rd_T36 l2 x10_3).f1.f0) 1 40 true _ A19.out).mono ?_); rintro e w' ⟨rfl, ⟨nd, rfl⟩⟩; (try first | exact ⟨rfl, _, World.drewN_drewN _ _ _⟩ | exact ⟨rfl, _, Eq.trans (World.drewN_drewN _ _ _) (congrArg (World.drewN _) (Nat.add_assoc _ _ _))⟩); have p162 : 0 ≤ (x10_3 : Int) := of_decide_eq_true (by first | (with_reducible assumption) | assumption); have q162 : x10_3 < (l2.length : Int) := of_decide_eq_true (by first | (with_reducible assumption) | assumption); obtain ⟨ad162, e162, hx162_0, hx162_1, hx162_2, hx162_3, hx162_4, hx162_5, hx162_6⟩ := at_T36 HR2.out x10_3 p162 q162; obtain rfl : ad160 = ad162 := (by injection e162); replace p162 := eq_true p162; replace q162 := eq_true q162) | (go_at_call 32; (with_reducible refine (gangsawref25_in.calls ((rd_T36 l2 x10_3).f1.f1) 1 40 true _ A21.out).mono ?_); rintro e w' ⟨rfl, ⟨nd, rfl⟩⟩; (try first | exact ⟨rfl, _, World.drewN_drewN _ _ _⟩ | exact ⟨rfl, _, Eq.trans (World.drewN_drewN _ _ _) (congrArg (World.drewN _) (Nat.add_assoc _ _ _))⟩); have p164 : 0 ≤ (x10_3 : Int) := of_decide_eq_true (by first | (with_reducible assumption) | assumption); have q164 : x10_3 < (l2.length : Int) := of_decide_eq_true (by first | (with_reducible assumption) | assumption); obtain ⟨ad164, e164, hx164_0, hx164_1, hx164_2, hx164_3, hx164_4, hx164_5, hx164_6⟩ := at_T36 HR2.out x10_3 p164 q164; obtain rfl : ad160 = ad164 := (by injection e164); replace p164 := eq_true p164; replace q164 := eq_true q164; have p165 : 0 ≤ (x10_3 : Int) := of_decide_eq_true (by first | (with_reducible assumption) | assumption); have q165 : x10_3 < (l2.length : Int) := of_decide_eq_true (by first | (with_reducible assumption) | assumption); obtain ⟨ad165, e165, hx165_0, hx165_1, hx165_2, hx165_3, hx165_4, hx165_5, hx165_6⟩ := at_T36 HR2.out x10_3 p165 q165; obtain rfl : ad160 = ad165 := (by injection e165); replace p165 := eq_true p165; replace q165 := eq_true q165)))
                go_ret
                exact ⟨by first | rfl | (simp; done) | (simp [*]; done), by repeat (first | exact Drawn0.refl _ | apply Drawn0.step)⟩
               ·rw [if_neg c24] at H;have c24b0 : decide (1000000000 < ((rd_T36 l2 x10_3).f2)) = false := decide_eq_false c24;clear c24;have H' := am H;clear H;have p160 : 0 ≤ (x10_3 : Int) := of_decide_eq_true (by first | (with_reducible assumption) | assumption);have q160 : x10_3 < (l2.length : Int) := of_decide_eq_true (by first | (with_reducible assumption) | assumption);obtain ⟨ad160, e160, hx160_0, hx160_1, hx160_2, hx160_3, hx160_4, hx160_5, hx160_6⟩ := at_T36 HR2.out x10_3 p160 q160
                cases e160
                replace p160 := eq_true p160;replace q160 := eq_true q160
                go_wp2_with (first | (go_at_call 32; (with_reducible refine (gangsawref25_in.calls ((rd_T36 l2 x10_3).f1.f0) 1 40 true _ A19.out).mono ?_); rintro e w' ⟨rfl, ⟨nd, rfl⟩⟩; (try first | exact ⟨rfl, _, World.drewN_drewN _ _ _⟩ | exact ⟨rfl, _, Eq.trans (World.drewN_drewN _ _ _) (congrArg (World.drewN _) (Nat.add_assoc _ _ _))⟩); have p162 : 0 ≤ (x10_3 : Int) := of_decide_eq_true (by first | (with_reducible assumption) | assumption); have q162 : x10_3 < (l2.length : Int) := of_decide_eq_true (by first | (with_reducible assumption) | assumption); obtain ⟨ad162, e162, hx162_0, hx162_1, hx162_2, hx162_3, hx162_4, hx162_5, hx162_6⟩ := at_T36 HR2.out x10_3 p162 q162; obtain rfl : ad160 = ad162 := (by injection e162); replace p162 := eq_true p162; replace q162 := eq_true q162) | (go_at_call 32; (with_reducible refine (gangsawref25_in.calls ((rd_T36 l2 x10_3).f1.f1) 1 40 true _ A21.out).mono ?_); rintro e w' ⟨rfl, ⟨nd, rfl⟩⟩; (try first | exact ⟨rfl, _, World.drewN_drewN _ _ _⟩ | exact ⟨rfl, _, Eq.trans (World.drewN_drewN _ _ _) (congrArg (World.drewN _) (Nat.add_assoc _ _ _))⟩); have p164 : 0 ≤ (x10_3 : Int) := of_decide_eq_true (by first | (with_reducible assumption) | assumption); have q164 : x10_3 < (l2.length : Int) := of_decide_eq_true (by first | (with_reducible assumption) | assumption); obtain ⟨ad164, e164, hx164_0, hx164_1, hx164_2, hx164_3, hx164_4, hx164_5, hx164_6⟩ := at_T36 HR2.out x10_3 p164 q164; obtain rfl : ad160 = ad164 := (by injection e164); replace p164 := eq_true p164; replace q164 := eq_true q164; have p165 : 0 ≤ (x10_3 : Int) := of_decide_eq_true (by first | (with_reducible assumption) | assumption); have q165 : x10_3 < (l2.length : Int) := of_decide_eq_true (by first | (with_reducible assumption) | assumption); obtain ⟨ad165, e165, hx165_0, hx165_1, hx165_2, hx165_3, hx165_4, hx165_5, hx165_6⟩ := at_T36 HR2.out x10_3 p165 q165; obtain rfl : ad160 = ad165 := (by injection e165); replace p165 := eq_true p165; replace q165 := eq_true q165))
                repeat (go_quiet (first | (go_at_call 32; (with_reducible refine (gangsawref25_in.calls ((rd_T36 l2 x10_3).f1.f0) 1 40 true _ A19.out).mono ?_); rintro e w' ⟨rfl, ⟨nd, rfl⟩⟩; (try first | exact ⟨rfl, _, World.drewN_drewN _ _ _⟩ | exact ⟨rfl, _, Eq.trans (World.drewN_drewN _ _ _) (congrArg (World.drewN _) (Nat.add_assoc _ _ _))⟩); have p162 : 0 ≤ (x10_3 : Int) := of_decide_eq_true (by first | (with_reducible assumption) | assumption); have q162 : x10_3 < (l2.length : Int) := of_decide_eq_true (by first | (with_reducible assumption) | assumption); obtain ⟨ad162, e162, hx162_0, hx162_1, hx162_2, hx162_3, hx162_4, hx162_5, hx162_6⟩ := at_T36 HR2.out x10_3 p162 q162; obtain rfl : ad160 = ad162 := (by injection e162); replace p162 := eq_true p162; replace q162 := eq_true q162) | (go_at_call 32; (with_reducible refine (gangsawref25_in.calls ((rd_T36 l2 x10_3).f1.f1) 1 40 true _ A21.out).mono ?_); rintro e w' ⟨rfl, ⟨nd, rfl⟩⟩; (try first | exact ⟨rfl, _, World.drewN_drewN _ _ _⟩ | exact ⟨rfl, _, Eq.trans (World.drewN_drewN _ _ _) (congrArg (World.drewN _) (Nat.add_assoc _ _ _))⟩); have p164 : 0 ≤ (x10_3 : Int) := of_decide_eq_true (by first | (with_reducible assumption) | assumption); have q164 : x10_3 < (l2.length : Int) := of_decide_eq_true (by first | (with_reducible assumption) | assumption); obtain ⟨ad164, e164, hx164_0, hx164_1, hx164_2, hx164_3, hx164_4, hx164_5, hx164_6⟩ := at_T36 HR2.out x10_3 p164 q164; obtain rfl : ad160 = ad164 := (by injection e164); replace p164 := eq_true p164; replace q164 := eq_true q164; have p165 : 0 ≤ (x10_3 : Int) := of_decide_eq_true (by first | (with_reducible assumption) | assumption); have q165 : x10_3 < (l2.length : Int) := of_decide_eq_true (by first | (with_reducible assumption) | assumption); obtain ⟨ad165, e165, hx165_0, hx165_1, hx165_2, hx165_3, hx165_4, hx165_5, hx165_6⟩ := at_T36 HR2.out x10_3 p165 q165; obtain rfl : ad160 = ad165 := (by injection e165); replace p165 := eq_true p165; replace q165 := eq_true q165)); try go_wp2_with (first | (go_at_call 32; (with_reducible refine (gangsawref25_in.calls ((rd_T36 l2 x10_3).f1.f0) 1 40 true _ A19.out).mono ?_); rintro e w' ⟨rfl, ⟨nd, rfl⟩⟩; (try first | exact ⟨rfl, _, World.drewN_drewN _ _ _⟩ | exact ⟨rfl, _, Eq.trans (World.drewN_drewN _ _ _) (congrArg (World.drewN _) (Nat.add_assoc _ _ _))⟩); have p162 : 0 ≤ (x10_3 : Int) := of_decide_eq_true (by first | (with_reducible assumption) | assumption); have q162 : x10_3 < (l2.length : Int) := of_decide_eq_true (by first | (with_reducible assumption) | assumption); obtain ⟨ad162, e162, hx162_0, hx162_1, hx162_2, hx162_3, hx162_4, hx162_5, hx162_6⟩ := at_T36 HR2.out x10_3 p162 q162; obtain rfl : ad160 = ad162 := (by injection e162); replace p162 := eq_true p162; replace q162 := eq_true q162) | (go_at_call 32; (with_reducible refine (gangsawref25_in.calls ((rd_T36 l2 x10_3).f1.f1) 1 40 true _ A21.out).mono ?_); rintro e w' ⟨rfl, ⟨nd, rfl⟩⟩; (try first | exact ⟨rfl, _, World.drewN_drewN _ _ _⟩ | exact ⟨rfl, _, Eq.trans (World.drewN_drewN _ _ _) (congrArg (World.drewN _) (Nat.add_assoc _ _ _))⟩); have p164 : 0 ≤ (x10_3 : Int) := of_decide_eq_true (by first | (with_reducible assumption) | assumption); have q164 : x10_3 < (l2.length : Int) := of_decide_eq_true (by first | (with_reducible assumption) | assumption); obtain ⟨ad164, e164, hx164_0, hx164_1, hx164_2, hx164_3, hx164_4, hx164_5, hx164_6⟩ := at_T36 HR2.out x10_3 p164 q164; obtain rfl : ad160 = ad164 := (by injection e164); replace p164 := eq_true p164; replace q164 := eq_true q164; have p165 : 0 ≤ (x10_3 : Int) := of_decide_eq_true (by first | (with_reducible assumption) | assumption); have q165 : x10_3 < (l2.length : Int) := of_decide_eq_true (by first | (with_reducible assumption) | assumption); obtain ⟨ad165, e165, hx165_0, hx165_1, hx165_2, hx165_3, hx165_4, hx165_5, hx165_6⟩ := at_T36 HR2.out x10_3 p165 q165; obtain rfl : ad160 = ad165 := (by injection e165); replace p165 := eq_true p165; replace q165 := eq_true q165)))
                go_roundg k3
                case measure => have := HJ4.out; have := HK2.out; have := HK3.out; omega
                case rel => exact ⟨(wrap64 (x10_3 + 1)), (by first | rfl | (simp; done) | (simp [*]; done)), H', ⟨by have := HJ4.out; have := HK2.out; have := HK3.out; omega⟩, by repeat (first | exact Drawn0.refl _ | apply Drawn0.step)⟩
             ·replace c22 := Bool.eq_false_iff.mpr c22;subst c22
              have H1 : (some 6) = some r := by rw [if_neg (show ¬ (false = true) by decide)] at H; exact H
              clear H;have H := H1;clear H1;obtain rfl := Option.some.inj H;have p160 : 0 ≤ (x10_3 : Int) := of_decide_eq_true (by first | (with_reducible assumption) | assumption);have q160 : x10_3 < (l2.length : Int) := of_decide_eq_true (by first | (with_reducible assumption) | assumption);obtain ⟨ad160, e160, hx160_0, hx160_1, hx160_2, hx160_3, hx160_4, hx160_5, hx160_6⟩ := at_T36 HR2.out x10_3 p160 q160
              cases e160
              replace p160 := eq_true p160;replace q160 := eq_true q160
              go_wp2_with (first | (go_at_call 32; (with_reducible refine (gangsawref25_in.calls ((rd_T36 l2 x10_3).f1.f0) 1 40 true _ A19.out).mono ?_); rintro e w' ⟨rfl, ⟨nd, rfl⟩⟩; (try first | exact ⟨rfl, _, World.drewN_drewN _ _ _⟩ | exact ⟨rfl, _, Eq.trans (World.drewN_drewN _ _ _) (congrArg (World.drewN _) (Nat.add_assoc _ _ _))⟩); have p162 : 0 ≤ (x10_3 : Int) := of_decide_eq_true (by first | (with_reducible assumption) | assumption); have q162 : x10_3 < (l2.length : Int) := of_decide_eq_true (by first | (with_reducible assumption) | assumption); obtain ⟨ad162, e162, hx162_0, hx162_1, hx162_2, hx162_3, hx162_4, hx162_5, hx162_6⟩ := at_T36 HR2.out x10_3 p162 q162; obtain rfl : ad160 = ad162 := (by injection e162); replace p162 := eq_true p162; replace q162 := eq_true q162) | (go_at_call 32; (with_reducible refine (gangsawref25_in.calls ((rd_T36 l2 x10_3).f1.f1) 1 40 false _ A21.out).mono ?_); rintro e w' ⟨rfl, ⟨nd, rfl⟩⟩; (try first | exact ⟨rfl, _, World.drewN_drewN _ _ _⟩ | exact ⟨rfl, _, Eq.trans (World.drewN_drewN _ _ _) (congrArg (World.drewN _) (Nat.add_assoc _ _ _))⟩)))
              repeat (go_quiet (first | (go_at_call 32; (with_reducible refine (gangsawref25_in.calls ((rd_T36 l2 x10_3).f1.f0) 1 40 true _ A19.out).mono ?_); rintro e w' ⟨rfl, ⟨nd, rfl⟩⟩; (try first | exact ⟨rfl, _, World.drewN_drewN _ _ _⟩ | exact ⟨rfl, _, Eq.trans (World.drewN_drewN _ _ _) (congrArg (World.drewN _) (Nat.add_assoc _ _ _))⟩); have p162 : 0 ≤ (x10_3 : Int) := of_decide_eq_true (by first | (with_reducible assumption) | assumption); have q162 : x10_3 < (l2.length : Int) := of_decide_eq_true (by first | (with_reducible assumption) | assumption); obtain ⟨ad162, e162, hx162_0, hx162_1, hx162_2, hx162_3, hx162_4, hx162_5, hx162_6⟩ := at_T36 HR2.out x10_3 p162 q162; obtain rfl : ad160 = ad162 := (by injection e162); replace p162 := eq_true p162; replace q162 := eq_true q162) | (go_at_call 32; (with_reducible refine (gangsawref25_in.calls ((rd_T36 l2 x10_3).f1.f1) 1 40 false _ A21.out).mono ?_); rintro e w' ⟨rfl, ⟨nd, rfl⟩⟩; (try first | exact ⟨rfl, _, World.drewN_drewN _ _ _⟩ | exact ⟨rfl, _, Eq.trans (World.drewN_drewN _ _ _) (congrArg (World.drewN _) (Nat.add_assoc _ _ _))⟩))); try go_wp2_with (first | (go_at_call 32; (with_reducible refine (gangsawref25_in.calls ((rd_T36 l2 x10_3).f1.f0) 1 40 true _ A19.out).mono ?_); rintro e w' ⟨rfl, ⟨nd, rfl⟩⟩; (try first | exact ⟨rfl, _, World.drewN_drewN _ _ _⟩ | exact ⟨rfl, _, Eq.trans (World.drewN_drewN _ _ _) (congrArg (World.drewN _) (Nat.add_assoc _ _ _))⟩); have p162 : 0 ≤ (x10_3 : Int) := of_decide_eq_true (by first | (with_reducible assumption) | assumption); have q162 : x10_3 < (l2.length : Int) := of_decide_eq_true (by first | (with_reducible assumption) | assumption); obtain ⟨ad162, e162, hx162_0, hx162_1, hx162_2, hx162_3, hx162_4, hx162_5, hx162_6⟩ := at_T36 HR2.out x10_3 p162 q162; obtain rfl : ad160 = ad162 := (by injection e162); replace p162 := eq_true p162; replace q162 := eq_true q162) | (go_at_call 32; (with_reducible refine (gangsawref25_in.calls ((rd_T36 l2 x10_3).f1.f1) 1 40 false _ A21.out).mono ?_); rintro e w' ⟨rfl, ⟨nd, rfl⟩⟩; (try first | exact ⟨rfl, _, World.drewN_drewN _ _ _⟩ | exact ⟨rfl, _, Eq.trans (World.drewN_drewN _ _ _) (congrArg (World.drewN _) (Nat.add_assoc _ _ _))⟩))))
              go_ret
              exact ⟨by first | rfl | (simp; done) | (simp [*]; done), by repeat (first | exact Drawn0.refl _ | apply Drawn0.step)⟩
            ·replace c20 := Bool.eq_false_iff.mpr c20;subst c20
             have H1 : (some 6) = some r := by rw [if_neg (show ¬ (false = true) by decide)] at H; exact H
             clear H;have H := H1;clear H1;obtain rfl := Option.some.inj H;have p160 : 0 ≤ (x10_3 : Int) := of_decide_eq_true (by first | (with_reducible assumption) | assumption);have q160 : x10_3 < (l2.length : Int) := of_decide_eq_true (by first | (with_reducible assumption) | assumption);obtain ⟨ad160, e160, hx160_0, hx160_1, hx160_2, hx160_3, hx160_4, hx160_5, hx160_6⟩ := at_T36 HR2.out x10_3 p160 q160
             cases e160
             replace p160 := eq_true p160;replace q160 := eq_true q160
             go_wp2_with (first | (go_at_call 32; (with_reducible refine (gangsawref25_in.calls ((rd_T36 l2 x10_3).f1.f0) 1 40 false _ A19.out).mono ?_); rintro e w' ⟨rfl, ⟨nd, rfl⟩⟩; (try first | exact ⟨rfl, _, World.drewN_drewN _ _ _⟩ | exact ⟨rfl, _, Eq.trans (World.drewN_drewN _ _ _) (congrArg (World.drewN _) (Nat.add_assoc _ _ _))⟩)))
             repeat (go_quiet (first | (go_at_call 32; (with_reducible refine (gangsawref25_in.calls ((rd_T36 l2 x10_3).f1.f0) 1 40 false _ A19.out).mono ?_); rintro e w' ⟨rfl, ⟨nd, rfl⟩⟩; (try first | exact ⟨rfl, _, World.drewN_drewN _ _ _⟩ | exact ⟨rfl, _, Eq.trans (World.drewN_drewN _ _ _) (congrArg (World.drewN _) (Nat.add_assoc _ _ _))⟩))); try go_wp2_with (first | (go_at_call 32; (with_reducible refine (gangsawref25_in.calls ((rd_T36 l2 x10_3).f1.f0) 1 40 false _ A19.out).mono ?_); rintro e w' ⟨rfl, ⟨nd, rfl⟩⟩; (try first | exact ⟨rfl, _, World.drewN_drewN _ _ _⟩ | exact ⟨rfl, _, Eq.trans (World.drewN_drewN _ _ _) (congrArg (World.drewN _) (Nat.add_assoc _ _ _))⟩))))
             go_ret
             exact ⟨by first | rfl | (simp; done) | (simp [*]; done), by repeat (first | exact Drawn0.refl _ | apply Drawn0.step)⟩
           (rw [if_neg c18] at H;exact absurd H (by simp))
          ·rw [if_neg c17] at H;have c17b0 : decide (x10_3 < (l2.length : Int)) = false := decide_eq_false c17;clear c17;have H' := am H;clear H
           go_wp2
           repeat (go_quiet (fail); try go_wp2)
           go_loopg [11] k3 (fun kq v11 w' => ∃ (x11_4 : Int), v11 = .int .i64 x11_4 ∧ Aside0 (gangsawref25_Check.l2 kq l2 x11_4 = some r) ∧ Aside0 (kq ≤ k3) ∧ Drawn0 w w')
           case atStart => exact ⟨(0), (by first | rfl | (simp; done) | (simp [*]; done)), H', ⟨Nat.le_refl _⟩, by repeat (first | exact Drawn0.refl _ | apply Drawn0.step)⟩
           case round =>
            clear H'
            try clear c1
            try clear p1
            try clear q1
            try clear hx1
            try clear c2
            try clear p2
            try clear c4
            try clear p6
            try clear c7
            try clear c9
            try clear c11
            try clear c12
            try clear c12b0
            try clear c12b1
            try clear c13
            try clear c13b0
            try clear c14
            try clear c14b0
            try clear p15
            try clear q15
            try clear hx15
            try clear c16
            try clear p16
            try clear q16
            try clear hx16
            try clear c17
            try clear c17b0
            try clear c18
            try clear c18b0
            try clear c20
            try clear c22
            try clear c23
            try clear c23b0
            try clear c24
            try clear c24b0
            try clear hx158_0
            try clear hx158_1
            try clear hx158_2
            try clear hx158_3
            try clear hx158_4
            try clear hx158_5
            try clear hx158_6
            try clear hx160_0
            try clear hx160_1
            try clear hx160_2
            try clear hx160_3
            try clear hx160_4
            try clear hx160_5
            try clear hx160_6
            try clear hx162_0
            try clear hx162_1
            try clear hx162_2
            try clear hx162_3
            try clear hx162_4
            try clear hx162_5
            try clear hx162_6
            try clear hx164_0
            try clear hx164_1
            try clear hx164_2
            try clear hx164_3
            try clear hx164_4
            try clear hx164_5
            try clear hx164_6
            try clear hx165_0
            try clear hx165_1
            try clear hx165_2
            try clear hx165_3
            try clear hx165_4
            try clear hx165_5
            try clear hx165_6
            try clear p1
            try clear p15
            try clear p158
            try clear p160
            try clear p162
            try clear p164
            try clear p165
            try clear p2
            try clear p6
            try clear q1
            try clear q15
            try clear q158
            try clear q160
            try clear q162
            try clear q164
            try clear q165
            obtain ⟨x11_4, rfl, HA, HK4, ⟨m4, rfl⟩⟩ := hrel
            cases gk with
            | zero => exact absurd HA.out (by simp [gangsawref25_Check.l2])
            | succ k4 =>
             have H := HA.out;clear HA;simp only [gangsawref25_Check.l2] at H;by_cases c25 : x11_4 < (l2.length : Int)
             ·rw [if_pos c25] at H;have c25b0 : decide (x11_4 < (l2.length : Int)) = true := decide_eq_true c25;clear c25;by_cases c26 : 0 ≤ x11_4
              ·rw [if_pos c26] at H;have c26b0 : decide (0 ≤ x11_4) = true := decide_eq_true c26;clear c26;by_cases c27 : ((rd_T36 l2 x11_4).f1.f2) = 1
               ·rw [if_pos c27] at H;have c27b0 : (((rd_T36 l2 x11_4).f1.f2) == 1) = true := beq_iff_eq.mpr c27;have c27b1 : (((rd_T36 l2 x11_4).f1.f2) != 1) = false := bne_eq_false_iff_eq.mpr c27;clear c27;have H' := am H;clear H;have p166 : 0 ≤ (x11_4 : Int) := of_decide_eq_true (by first | (with_reducible assumption) | assumption);have q166 : x11_4 < (l2.length : Int) := of_decide_eq_true (by first | (with_reducible assumption) | assumption);obtain ⟨ad166, e166, hx166_0, hx166_1, hx166_2, hx166_3, hx166_4, hx166_5, hx166_6⟩ := at_T36 HR2.out x11_4 p166 q166
                cases e166
                replace p166 := eq_true p166;replace q166 := eq_true q166
                go_wp2
                repeat (go_quiet (fail); try go_wp2)
                go_roundg k4
                case measure => have := HJ4.out; have := HK2.out; have := HK3.out; have := HK4.out; omega
                case rel => exact ⟨(wrap64 (x11_4 + 1)), (by first | rfl | (simp; done) | (simp [*]; done)), H', ⟨by have := HJ4.out; have := HK2.out; have := HK3.out; have := HK4.out; omega⟩, by repeat (first | exact Drawn0.refl _ | apply Drawn0.step)⟩
               ·rw [if_neg c27] at H;have c27b0 : (((rd_T36 l2 x11_4).f1.f2) == 1) = false := beq_eq_false_iff_ne.mpr c27;have c27b1 : (((rd_T36 l2 x11_4).f1.f2) != 1) = true := bne_iff_ne.mpr c27;obtain rfl := Option.some.inj H;have p166 : 0 ≤ (x11_4 : Int) := of_decide_eq_true (by first | (with_reducible assumption) | assumption);have q166 : x11_4 < (l2.length : Int) := of_decide_eq_true (by first | (with_reducible assumption) | assumption);obtain ⟨ad166, e166, hx166_0, hx166_1, hx166_2, hx166_3, hx166_4, hx166_5, hx166_6⟩ := at_T36 HR2.out x11_4 p166 q166
                cases e166
                replace p166 := eq_true p166;replace q166 := eq_true q166
                go_wp2
                repeat (go_quiet (fail); try go_wp2)
                go_ret
                exact ⟨by first | rfl | (simp; done) | (simp [*]; done), by repeat (first | exact Drawn0.refl _ | apply Drawn0.step)⟩
              (rw [if_neg c26] at H;exact absurd H (by simp))
             ·rw [if_neg c25] at H;have c25b0 : decide (x11_4 < (l2.length : Int)) = false := decide_eq_false c25;clear c25;have H' := am H;clear H
              go_wp2
              repeat (go_quiet (fail); try go_wp2)
              go_loopg [12] k4 (fun kq v12 w' => ∃ (x12_5 : Int), v12 = .int .i64 x12_5 ∧ Aside0 (gangsawref25_Check.l3 kq l2 x12_5 = some r) ∧ Aside0 (kq ≤ k4) ∧ Drawn0 w w')
              case atStart => exact ⟨(1), (by first | rfl | (simp; done) | (simp [*]; done)), H', ⟨Nat.le_refl _⟩, by repeat (first | exact Drawn0.refl _ | apply Drawn0.step)⟩
              case round =>
               clear H'
               try clear c1
               try clear p1
               try clear q1
               try clear hx1
               try clear c2
               try clear p2
               try clear c4
               try clear p6
               try clear c7
               try clear c9
               try clear c11
               try clear c12
               try clear c12b0
               try clear c12b1
               try clear c13
               try clear c13b0
               try clear c14
               try clear c14b0
               try clear p15
               try clear q15
               try clear hx15
               try clear c16
               try clear p16
               try clear q16
               try clear hx16
               try clear c17
               try clear c17b0
               try clear c18
               try clear c18b0
               try clear c20
               try clear c22
               try clear c23
               try clear c23b0
               try clear c24
               try clear c24b0
               try clear c25
               try clear c25b0
               try clear c26
               try clear c26b0
               try clear c27
               try clear c27b0
               try clear c27b1
               try clear hx158_0
               try clear hx158_1
               try clear hx158_2
               try clear hx158_3
               try clear hx158_4
               try clear hx158_5
               try clear hx158_6
               try clear hx160_0
               try clear hx160_1
               try clear hx160_2
               try clear hx160_3
               try clear hx160_4
               try clear hx160_5
               try clear hx160_6
               try clear hx162_0
               try clear hx162_1
               try clear hx162_2
               try clear hx162_3
               try clear hx162_4
               try clear hx162_5
               try clear hx162_6
               try clear hx164_0
               try clear hx164_1
               try clear hx164_2
               try clear hx164_3
               try clear hx164_4
               try clear hx164_5
               try clear hx164_6
               try clear hx165_0
               try clear hx165_1
               try clear hx165_2
               try clear hx165_3
               try clear hx165_4
               try clear hx165_5
               try clear hx165_6
               try clear hx166_0
               try clear hx166_1
               try clear hx166_2
               try clear hx166_3
               try clear hx166_4
               try clear hx166_5
               try clear hx166_6
               try clear p1
               try clear p15
               try clear p158
               try clear p16
               try clear p160
               try clear p162
               try clear p164
               try clear p165
               try clear p166
               try clear p2
               try clear p6
               try clear q1
               try clear q15
               try clear q158
               try clear q16
               try clear q160
               try clear q162
               try clear q164
               try clear q165
               try clear q166
               obtain ⟨x12_5, rfl, HA, HK5, ⟨m5, rfl⟩⟩ := hrel
               cases gk with
               | zero => exact absurd HA.out (by simp [gangsawref25_Check.l3])
               | succ k5 =>
                have H := HA.out;clear HA;simp only [gangsawref25_Check.l3] at H;by_cases c28 : x12_5 < (l2.length : Int)
                ·rw [if_pos c28] at H;have c28b0 : decide (x12_5 < (l2.length : Int)) = true := decide_eq_true c28;clear c28
                 obtain ⟨ji29, hji29⟩ : ∃ j_ : Int, (wrap64 (x12_5 - 1)) = j_ := ⟨_, rfl⟩
                 replace H : (if 0 ≤ (ji29) then (if (ji29) < (l2.length : Int) then (if 0 ≤ x12_5 then (if ((Op.bytesLess (((rd_T36 l2 (ji29)).f0).toList) (((rd_T36 l2 x12_5).f0).toList)) = true) then (gangsawref25_Check.l3 k5 l2 (wrap64 (x12_5 + 1))) else (some 5)) else (none)) else (none)) else (none)) = some r := by first | (rw [hji29] at H; exact H) | (simp only [hji29] at H ⊢; exact H)
                 have hji29w : (IntKind.i64.wrap (x12_5 - 1)) = ji29 := (i64_w _).trans hji29;by_cases c30 : 0 ≤ (ji29)
                 ·rw [if_pos c30] at H;have c30b0 : decide (0 ≤ (ji29)) = true := decide_eq_true c30;clear c30;by_cases c31 : (ji29) < (l2.length : Int)
                  ·rw [if_pos c31] at H;have c31b0 : decide ((ji29) < (l2.length : Int)) = true := decide_eq_true c31;clear c31;by_cases c32 : 0 ≤ x12_5
                   ·rw [if_pos c32] at H;have c32b0 : decide (0 ≤ x12_5) = true := decide_eq_true c32;clear c32;by_cases c33 : ((Op.bytesLess (((rd_T36 l2 (ji29)).f0).toList) (((rd_T36 l2 x12_5).f0).toList)) = true)
                    ·rw [if_pos c33] at H;have c33b0 : (Op.bytesLess (((rd_T36 l2 (ji29)).f0).toList) (((rd_T36 l2 x12_5).f0).toList)) = true := c33;clear c33;have H' := am H;clear H;have p167 : 0 ≤ ((ji29) : Int) := of_decide_eq_true (by first | (with_reducible assumption) | assumption);have q167 : (ji29) < (l2.length : Int) := of_decide_eq_true (by first | (with_reducible assumption) | assumption);obtain ⟨ad167, e167, hx167_0, hx167_1, hx167_2, hx167_3, hx167_4, hx167_5, hx167_6⟩ := at_T36 HR2.out (ji29) p167 q167
                     cases e167
                     replace p167 := eq_true p167;replace q167 := eq_true q167;have p168 : 0 ≤ (x12_5 : Int) := of_decide_eq_true (by first | (with_reducible assumption) | assumption);have q168 : x12_5 < (l2.length : Int) := of_decide_eq_true (by first | (with_reducible assumption) | assumption);obtain ⟨ad168, e168, hx168_0, hx168_1, hx168_2, hx168_3, hx168_4, hx168_5, hx168_6⟩ := at_T36 HR2.out x12_5 p168 q168
                     obtain rfl : ad167 = ad168 := (by injection e168)
                     replace p168 := eq_true p168;replace q168 := eq_true q168
                     go_wp2
                     repeat (go_quiet (fail); try go_wp2)
                     go_roundg k5
                     case measure => have := HJ4.out; have := HK2.out; have := HK3.out; have := HK4.out; have := HK5.out; omega
                     case rel => exact ⟨(wrap64 (x12_5 + 1)), (by first | rfl | (simp; done) | (simp [*]; done)), H', ⟨by have := HJ4.out; have := HK2.out; have := HK3.out; have := HK4.out; have := HK5.out; omega⟩, by repeat (first | exact Drawn0.refl _ | apply Drawn0.step)⟩
                    ·rw [if_neg c33] at H
                     have c33b0 : (Op.bytesLess (((rd_T36 l2 (ji29)).f0).toList) (((rd_T36 l2 x12_5).f0).toList)) = false := by simpa using c33
                     clear c33;obtain rfl := Option.some.inj H;have p167 : 0 ≤ ((ji29) : Int) := of_decide_eq_true (by first | (with_reducible assumption) | assumption);have q167 : (ji29) < (l2.length : Int) := of_decide_eq_true (by first | (with_reducible assumption) | assumption);obtain ⟨ad167, e167, hx167_0, hx167_1, hx167_2, hx167_3, hx167_4, hx167_5, hx167_6⟩ := at_T36 HR2.out (ji29) p167 q167
                     cases e167
                     replace p167 := eq_true p167;replace q167 := eq_true q167;have p168 : 0 ≤ (x12_5 : Int) := of_decide_eq_true (by first | (with_reducible assumption) | assumption);have q168 : x12_5 < (l2.length : Int) := of_decide_eq_true (by first | (with_reducible assumption) | assumption);obtain ⟨ad168, e168, hx168_0, hx168_1, hx168_2, hx168_3, hx168_4, hx168_5, hx168_6⟩ := at_T36 HR2.out x12_5 p168 q168
                     obtain rfl : ad167 = ad168 := (by injection e168)
                     replace p168 := eq_true p168;replace q168 := eq_true q168
                     go_wp2
                     repeat (go_quiet (fail); try go_wp2)
                     go_ret
                     exact ⟨by first | rfl | (simp; done) | (simp only [← hji29] <;> (first | rfl | simp)) | (simp [*]; done), by repeat (first | exact Drawn0.refl _ | apply Drawn0.step)⟩
                   (rw [if_neg c32] at H;exact absurd H (by simp))
                  (rw [if_neg c31] at H;exact absurd H (by simp))
                 (rw [if_neg c30] at H;exact absurd H (by simp))
                ·rw [if_neg c28] at H;have c28b0 : decide (x12_5 < (l2.length : Int)) = false := decide_eq_false c28;clear c28;obtain rfl := Option.some.inj H
                 go_wp2
                 repeat (go_quiet (fail); try go_wp2)
                 go_ret
                 exact ⟨by first | rfl | (simp; done) | (simp [*]; done), by repeat (first | exact Drawn0.refl _ | apply Drawn0.step)⟩
end Go.Proofs.Ytdnjagfbhppmbaa.PA
