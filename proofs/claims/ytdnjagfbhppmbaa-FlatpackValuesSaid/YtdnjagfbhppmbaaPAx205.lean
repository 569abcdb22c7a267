import Derived.Test.YtdnjagfbhppmbaaPAx19
import Derived.Test.YtdnjagfbhppmbaaPAx2
import Derived.Test.YtdnjagfbhppmbaaPAx226
namespace Go.Proofs.Ytdnjagfbhppmbaa.PA
open Go.RowKit Go.Proofs.YtdnjagfbhppmbaaW.PrintWords Go.Proofs.YtdnjagfbhppmbaaW.PrintLast Go.Proofs.YtdnjagfbhppmbaaW.PrintMore
attribute [local go_sem] max2_int min2_int max_two min_two max_three min_three max_four min_four
set_option linter.unusedVariables false
set_option linter.unusedSimpArgs false
noncomputable section
def gangsawlaw25_FlatpackValues.j0 : Nat → Int → Int → List (S36) → Int → List (S59) → Bool → Option (Bool)
 | 0, _, _, _, _, _, _ => none
 | k + 1, x0, x1, x2, x3, x4, x26 => if x26 = true then (some true) else ((flatpack_Value.f x0 x1 x2 x3 x4).bind fun bt491 => ((gangsawref25_Value.f k x0 x1 x2 x3 x4).bind fun bt493 => (if bt491.1 = bt493.1 then (some (bt491.2 == bt493.2)) else (none))))
def gangsawlaw25_FlatpackValues.f (k : Nat) (a0 : Int) (a1 : Int) (l2 : List (S36)) (a3 : Int) (l4 : List (S59)) : Option (Bool) := (gangsawlaw25_awake.f k).bind fun t488 => (if t488 = true then ((gangsawref25_Small.f k a0 a1 l2).bind fun t489 => (if t489 = true then ((gangsawref24_Few.f k l4).bind fun t490 => (gangsawlaw25_FlatpackValues.j0 k a0 a1 l2 a3 l4 (!t490))) else (gangsawlaw25_FlatpackValues.j0 k a0 a1 l2 a3 l4 true))) else (none))
set_option maxHeartbeats 8000000 in
set_option maxRecDepth 100000 in
theorem gangsawlaw25_FlatpackValues.calls (k : Nat) (a0 : Int) (a1 : Int) (A2 : Option Addr) (c2 : Nat) (l2 : List (S36)) (a3 : Int) (A4 : Option Addr) (c4 : Nat) (l4 : List (S59)) (r : Bool) (w : World) (hr2 : Kd.C k36 w A2 l2.length l2) (hc2 : l2.length ≤ c2) (hr4 : Kd.C k59 w A4 l4.length l4) (hc4 : l4.length ≤ c4) (h : gangsawlaw25_FlatpackValues.f k a0 a1 l2 a3 l4 = some r) :
  Calls Try.prog 8 #[.int .i64 a0, .int .i64 a1, .slice A2 l2.length c2, .int .i64 a3, .slice A4 l4.length c4] w fun e w' => e = .returned (.bool r) ∧ Below w.heap.size w w' := by
 have HR2 := am hr2;have HC2 := am hc2;clear hr2 hc2;have HR4 := am hr4;have HC4 := am hc4;clear hr4 hc4;have HB := am (Below.refl w.heap.size w);have H : ((gangsawlaw25_awake.f k).bind fun t488 => (if t488 = true then ((gangsawref25_Small.f k a0 a1 l2).bind fun t489 => (if t489 = true then ((gangsawref24_Few.f k l4).bind fun t490 => (gangsawlaw25_FlatpackValues.j0 k a0 a1 l2 a3 l4 (!t490))) else (gangsawlaw25_FlatpackValues.j0 k a0 a1 l2 a3 l4 true))) else (none))) = some r := h;clear h;replace H := Option.bind_eq_some_iff.mp H;obtain ⟨t488, A60, H⟩ := H;replace H : (if t488 = true then ((gangsawref25_Small.f k a0 a1 l2).bind fun t489 => (if t489 = true then ((gangsawref24_Few.f k l4).bind fun t490 => (gangsawlaw25_FlatpackValues.j0 k a0 a1 l2 a3 l4 (!t490))) else (gangsawlaw25_FlatpackValues.j0 k a0 a1 l2 a3 l4 true))) else (none)) = some r := H;have A6 := am A60;clear A60;by_cases c7 : t488 = true
 ·subst c7
  have H1 : ((gangsawref25_Small.f k a0 a1 l2).bind fun t489 => (if t489 = true then ((gangsawref24_Few.f k l4).bind fun t490 => (gangsawlaw25_FlatpackValues.j0 k a0 a1 l2 a3 l4 (!t490))) else (gangsawlaw25_FlatpackValues.j0 k a0 a1 l2 a3 l4 true))) = some r := by rw [if_pos rfl] at H; exact H
  clear H;have H := H1;clear H1;have HC8 := am H;clear H
  go_enter Try.func8, Try.ntmps8
  go_upto_region 3 with (first | ((with_reducible refine gate_callee (f := 11) rfl ?_); refine goesL_ (some 15) rfl rfl Try.func11 (by kernel_rfl) rfl #[] rfl (by (try simp only [List.map_toArray, List.map_cons, List.map_nil]); first | done | rfl | (simp only [List.length_drop, List.length_take]; rfl)) ?_; (with_reducible refine (gangsawlaw25_awake.calls k  true _ A6.out).mono ?_); rintro e w9 ⟨rfl, hb⟩; refine ⟨_, rfl, ?_⟩; replace HB := bsa HB hb; (try clear hb); (try clear hb2); (try clear hk); (try clear hi)))
  (try simp only [Act.put, List.setIfInBounds_toArray, List.set_cons_zero, List.set_cons_succ])
  go_cut [26] (fun v26 wc => ∃ (kq : Nat) (x26_7 : Bool), v26 = .bool x26_7 ∧ Aside0 (gangsawlaw25_FlatpackValues.j0 kq a0 a1 l2 a3 l4 x26_7 = some r) ∧ Aside0 (kq ≤ k) ∧ Aside0 (Below w.heap.size w wc))
  case first =>
   have H := HC8.out;clear HC8;replace H := Option.bind_eq_some_iff.mp H;obtain ⟨t489, A100, H⟩ := H;replace H : (if t489 = true then ((gangsawref24_Few.f k l4).bind fun t490 => (gangsawlaw25_FlatpackValues.j0 k a0 a1 l2 a3 l4 (!t490))) else (gangsawlaw25_FlatpackValues.j0 k a0 a1 l2 a3 l4 true)) = some r := H;have A10 := am A100;clear A100;by_cases c11 : t489 = true
   ·subst c11
    have H1 : ((gangsawref24_Few.f k l4).bind fun t490 => (gangsawlaw25_FlatpackValues.j0 k a0 a1 l2 a3 l4 (!t490))) = some r := by rw [if_pos rfl] at H; exact H
    clear H;have H := H1;clear H1;replace H := Option.bind_eq_some_iff.mp H;obtain ⟨t490, A120, H⟩ := H;replace H : (gangsawlaw25_FlatpackValues.j0 k a0 a1 l2 a3 l4 (!t490)) = some r := H;have A12 := am A120;clear A120;have H' := am H;clear H
    go_wp2_with (first | ((with_reducible refine gate_callee (f := 12) rfl ?_); refine goesL_ (some 20) rfl rfl Try.func12 (by kernel_rfl) rfl #[.int .i64 a0, .int .i64 a1, .slice A2 l2.length c2] rfl (by (try simp only [List.map_toArray, List.map_cons, List.map_nil]); first | done | rfl | (simp only [List.length_drop, List.length_take]; rfl)) ?_; (with_reducible refine (gangsawref25_Small.calls k a0 a1 _ _ l2 true _ ?side1 ?side2 A10.out).mono ?_); (case side1 => exact cq HR2.out HB.out); (case side2 => exact HC2.out); rintro e w' ⟨rfl, ⟨nd, rfl⟩⟩; refine ⟨_, rfl, ?_⟩) | (go_at_call 27; (with_reducible refine (gangsawref24_Few.calls k _ _ l4 t490 _ ?side1 ?side2 A12.out).mono ?_); (case side1 => repeat (first | exact (Kd.C_below HR4.out (by repeat (first|(with_reducible first|exact HB.out|apply lA|apply lN|apply lD)|exact HB.out))) | (with_reducible refine Kd.C_alloc ?_ _) | (with_reducible refine Kd.C_drewN ?_ _) | (with_reducible refine Kd.C_drew ?_))); (case side2 => exact HC4.out); rintro e w' ⟨rfl, ⟨nd, rfl⟩⟩))
    go_meet
    case rel => exact ⟨_, (!t490), (by first | rfl | (simp; done) | (simp [*]; done)), H', ⟨by first | omega | exact Nat.le_refl _⟩, ⟨by repeat (first|(with_reducible first|exact HB.out|apply lA|apply lN|apply lD)|exact HB.out)⟩⟩
   ·replace c11 := Bool.eq_false_iff.mpr c11;subst c11
    have H1 : (gangsawlaw25_FlatpackValues.j0 k a0 a1 l2 a3 l4 true) = some r := by rw [if_neg (show ¬ (false = true) by decide)] at H; exact H
    clear H;have H := H1;clear H1;have H' := am H;clear H
    go_wp2_with (first | ((with_reducible refine gate_callee (f := 12) rfl ?_); refine goesL_ (some 20) rfl rfl Try.func12 (by kernel_rfl) rfl #[.int .i64 a0, .int .i64 a1, .slice A2 l2.length c2] rfl (by (try simp only [List.map_toArray, List.map_cons, List.map_nil]); first | done | rfl | (simp only [List.length_drop, List.length_take]; rfl)) ?_; (with_reducible refine (gangsawref25_Small.calls k a0 a1 _ _ l2 false _ ?side1 ?side2 A10.out).mono ?_); (case side1 => exact cq HR2.out HB.out); (case side2 => exact HC2.out); rintro e w' ⟨rfl, ⟨nd, rfl⟩⟩; refine ⟨_, rfl, ?_⟩))
    go_meet
    case rel => exact ⟨_, (true), (by first | rfl | (simp; done) | (simp [*]; done)), H', ⟨by first | omega | exact Nat.le_refl _⟩, ⟨by repeat (first|(with_reducible first|exact HB.out|apply lA|apply lN|apply lD)|exact HB.out)⟩⟩
  case rest =>
   clear HC8
   try clear c1
   try clear c2
   try clear p2
   try clear c4
   try clear c7
   try clear c8
   try clear c11
   try clear c12
   obtain ⟨kq, x26_7, rfl, HA, HJ7, HB⟩ := hcut
   cases kq with
   | zero => exact absurd HA.out (by simp [gangsawlaw25_FlatpackValues.j0])
   | succ kj7 =>
    have H := HA.out;clear HA;simp only [gangsawlaw25_FlatpackValues.j0] at H;by_cases c13 : x26_7 = true
    ·subst c13
     have H1 : (some true) = some r := by rw [if_pos rfl] at H; exact H
     clear H;have H := H1;clear H1;obtain rfl := Option.some.inj H
     go_wp2
     go_ret
     exact ⟨by first | rfl | (simp [errW_none, errW_some] <;> rfl) | (simp [*, errW_none, errW_some] <;> rfl), by repeat (first|(with_reducible first|exact HB.out|apply lA|apply lN|apply lD)|exact HB.out)⟩
    ·replace c13 := Bool.eq_false_iff.mpr c13;subst c13
     have H1 : ((flatpack_Value.f a0 a1 l2 a3 l4).bind fun bt491 => ((gangsawref25_Value.f kj7 a0 a1 l2 a3 l4).bind fun bt493 => (if bt491.1 = bt493.1 then (some (bt491.2 == bt493.2)) else (none)))) = some r := by rw [if_neg (show ¬ (false = true) by decide)] at H; exact H
     clear H;have H := H1;clear H1;replace H := Option.bind_eq_some_iff.mp H;obtain ⟨⟨t491, t492⟩, A140, H⟩ := H;replace H : ((gangsawref25_Value.f kj7 a0 a1 l2 a3 l4).bind fun bt493 => (if t491 = bt493.1 then (some (t492 == bt493.2)) else (none))) = some r := H;have A14 := am A140;clear A140;replace H := Option.bind_eq_some_iff.mp H;obtain ⟨⟨t493, t494⟩, A150, H⟩ := H;replace H : (if t491 = t493 then (some (t492 == t494)) else (none)) = some r := H;have A15 := am A150;clear A150;by_cases c16 : t491 = t493
     ·rw [if_pos c16] at H;have c16b0 : (t491 == t493) = true := beq_iff_eq.mpr c16;have c16b1 : (t491 != t493) = false := bne_eq_false_iff_eq.mpr c16;clear c16;obtain rfl := Option.some.inj H
      go_wp2_with (first | ((with_reducible refine gate_callee (f := 28) rfl ?_); refine goesL_ (some 33) rfl rfl Try.func28 (by kernel_rfl) rfl #[.int .i64 a0, .int .i64 a1, .slice A2 l2.length c2, .int .i64 a3, .slice A4 l4.length c4] rfl (by (try simp only [List.map_toArray, List.map_cons, List.map_nil]); first | done | rfl | (simp only [List.length_drop, List.length_take]; rfl)) ?_; (with_reducible refine (flatpack_Value.calls a0 a1 _ _ l2 a3 _ _ l4 t491 t492 _ ?side1 ?side2 ?side3 ?side4 A14.out).mono ?_); (case side1 => exact cq HR2.out HB.out); (case side2 => exact HC2.out); (case side3 => exact cq HR4.out HB.out); (case side4 => exact HC4.out); rintro e w17 ⟨rfl, hb⟩; refine ⟨_, rfl, ?_⟩; replace HB := bsa HB hb; (try clear hb); (try clear hb2); (try clear hk); (try clear hi)) | ((with_reducible refine gate_callee (f := 29) rfl ?_); refine goesL_ (some 42) rfl rfl Try.func29 (by kernel_rfl) rfl #[.int .i64 a0, .int .i64 a1, .slice A2 l2.length c2, .int .i64 a3, .slice A4 l4.length c4] rfl (by (try simp only [List.map_toArray, List.map_cons, List.map_nil]); first | done | rfl | (simp only [List.length_drop, List.length_take]; rfl)) ?_; (with_reducible refine (gangsawref25_Value.calls kj7 a0 a1 _ _ l2 a3 _ _ l4 t493 t494 _ ?side1 ?side2 ?side3 ?side4 A15.out).mono ?_); (case side1 => exact cq HR2.out HB.out); (case side2 => exact HC2.out); (case side3 => exact cq HR4.out HB.out); (case side4 => exact HC4.out); rintro e w18 ⟨rfl, hb⟩; refine ⟨_, rfl, ?_⟩; replace HB := bsa HB hb; (try clear hb); (try clear hb2); (try clear hk); (try clear hi)))
      go_ret
      exact ⟨by first | rfl | (simp [errW_none, errW_some] <;> rfl) | (simp [*, errW_none, errW_some] <;> rfl), by repeat (first|(with_reducible first|exact HB.out|apply lA|apply lN|apply lD)|exact HB.out)⟩
     (rw [if_neg c16] at H;exact absurd H (by simp))
 ·replace c7 := Bool.eq_false_iff.mpr c7;subst c7
  have H1 : (none) = some r := by rw [if_neg (show ¬ (false = true) by decide)] at H; exact H
  clear H;have H := H1;clear H1;exact absurd H (by simp)
end
end Go.Proofs.Ytdnjagfbhppmbaa.PA
