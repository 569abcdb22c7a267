-- Written by a program of this session out of the translation, over functions proved by hand.
import Derived.Test.YtdnjagfbhppmbaaPAx0
import Derived.Test.YtdnjagfbhppmbaaPAx6
import Derived.Test.YtdnjagfbhppmbaaGiven
namespace Go.Proofs.Ytdnjagfbhppmbaa.PA
open Go.RowKit Go.Proofs.YtdnjagfbhppmbaaW.PrintWords Go.Proofs.YtdnjagfbhppmbaaW.PrintLast Go.Proofs.YtdnjagfbhppmbaaW.PrintMore
attribute [local go_sem] max2_int min2_int max_two min_two max_three min_three max_four min_four   -- for this text's walks alone
set_option linter.unusedVariables false
set_option linter.unusedSimpArgs false
noncomputable section

/-! ### flatpack_Bounds: function 18 -/
def flatpack_Bounds.f (a0 : Int) (a1 : Int) (l2 : List (S36)) (a3 : Int) : Option ((List (List Int)) × Int) := (flatpack_Check.f a0 a1 l2 a3).bind fun t296 => (if t296 = 0 then ((flatpack_table.f a0 a1 l2 a3).bind fun t297 => (some (t297, 0))) else (some (([] : List (List Int)), t296)))
set_option maxHeartbeats 8000000 in
set_option maxRecDepth 100000 in
theorem flatpack_Bounds.calls (a0 : Int) (a1 : Int) (A2 : Option Addr) (c2 : Nat) (l2 : List (S36)) (a3 : Int) (r1 : List (List Int)) (r2 : Int) (w : World) (hr2 : Kd.C k36 w A2 l2.length l2) (hc2 : l2.length ≤ c2) (h : flatpack_Bounds.f a0 a1 l2 a3 = some (r1, r2)) :
    Calls Try.prog 18 #[.int .i64 a0, .int .i64 a1, .slice A2 l2.length c2, .int .i64 a3] w fun e w' => ∃ v0_ : Value, e = .returned (.tuple #[v0_, .int .i64 r2]) ∧ Kd.S (Kd.slice 2 (Kd.int .i64)) 54 w' w.heap.size (fun _ => True) v0_ r1 ∧ Below w.heap.size w w' := by
  have HR2 := Aside0.mk hr2
  have HC2 := Aside0.mk hc2
  clear hr2 hc2
  have HB := Aside0.mk (Below.refl w.heap.size w)
  have H : ((flatpack_Check.f a0 a1 l2 a3).bind fun t296 => (if t296 = 0 then ((flatpack_table.f a0 a1 l2 a3).bind fun t297 => (some (t297, 0))) else (some (([] : List (List Int)), t296)))) = some (r1, r2) := h
  clear h
  replace H := Option.bind_eq_some_iff.mp H
  obtain ⟨t296, A50, H⟩ := H
  replace H : (if t296 = 0 then ((flatpack_table.f a0 a1 l2 a3).bind fun t297 => (some (t297, 0))) else (some (([] : List (List Int)), t296))) = some (r1, r2) := H
  have A5 := Aside0.mk A50
  clear A50
  by_cases c6 : t296 = 0
  · rw [if_pos c6] at H
    have c6b0 : (t296 == 0) = true := beq_iff_eq.mpr c6
    have c6b1 : (t296 != 0) = false := bne_eq_false_iff_eq.mpr c6
    clear c6
    replace H := Option.bind_eq_some_iff.mp H
    obtain ⟨t297, A70, H⟩ := H
    replace H : (some (t297, 0)) = some (r1, r2) := H
    have A7 := Aside0.mk A70
    clear A70
    simp only [Option.some.injEq, Prod.mk.injEq] at H
    obtain ⟨rfl, rfl⟩ := H
    go_enter Try.func18, Try.ntmps18
    go_wp2_with (first | ((with_reducible refine gate_callee (f := 30) rfl ?_); refine goesL_ (some 15) rfl rfl Try.func30 (by kernel_rfl) rfl #[.int .i64 a0, .int .i64 a1, .slice A2 l2.length c2, .int .i64 a3] rfl (by (try simp only [List.map_toArray, List.map_cons, List.map_nil]); first | done | rfl | (simp only [List.length_drop, List.length_take]; rfl)) ?_; (with_reducible refine (flatpack_Check.calls a0 a1 _ _ l2 a3 t296 _ ?side1 ?side2 A5.out).mono ?_); (case side1 => repeat (first | exact HR2.out | (with_reducible refine Kd.C_alloc ?_ _) | (with_reducible refine Kd.C_drewN ?_ _) | (with_reducible refine Kd.C_drew ?_))); (case side2 => exact HC2.out); rintro e w8 ⟨rfl, hb⟩; refine ⟨_, rfl, ?_⟩; have n0_ := Aside0.mk (below_step (by repeat (first | (with_reducible first | exact HB.out | apply below_alloc | apply pw_below_drewN | apply below_drew1) | exact HB.out)) hb); clear HB; have HB := n0_; clear n0_; (try clear hb); (try clear hb2); (try clear hk); (try clear hi)) | ((with_reducible refine gate_callee (f := 34) rfl ?_); refine goesL_ (some 23) rfl rfl Try.func34 (by kernel_rfl) rfl #[.int .i64 a0, .int .i64 a1, .slice A2 l2.length c2, .int .i64 a3] rfl (by (try simp only [List.map_toArray, List.map_cons, List.map_nil]); first | done | rfl | (simp only [List.length_drop, List.length_take]; rfl)) ?_; (with_reducible refine (flatpack_table.calls a0 a1 _ _ l2 a3 t297 _ ?side1 ?side2 A7.out).mono ?_); (case side1 => repeat (first | exact (Kd.C_below HR2.out HB.out) | (with_reducible refine Kd.C_alloc ?_ _) | (with_reducible refine Kd.C_drewN ?_ _) | (with_reducible refine Kd.C_drew ?_))); (case side2 => exact HC2.out); rintro e w9 ⟨v298, rfl, ho0, hb⟩; refine ⟨_, rfl, ?_⟩; have n0_ := Aside0.mk (Kd.S_lower ho0 (below_size (by repeat (first | (with_reducible first | exact HB.out | apply below_alloc | apply pw_below_drewN | apply below_drew1) | exact HB.out)))); have n1_ := Aside0.mk (below_step (by repeat (first | (with_reducible first | exact HB.out | apply below_alloc | apply pw_below_drewN | apply below_drew1) | exact HB.out)) hb); clear HB; have HO299 := n0_; have HB := n1_; clear n0_ n1_; (try clear hb); (try clear hb2); (try clear hk); (try clear hi); (try clear ho0)))
    go_ret2
    exact ⟨_, by first | rfl | (simp [errW_none, errW_some] <;> rfl) | (simp [*, errW_none, errW_some] <;> rfl), by (with_reducible repeat (first | apply Kd.S_alloc | apply Kd.S_drewN | apply Kd.S_drew)); exact HO299.out, by repeat (first | (with_reducible first | exact HB.out | apply below_alloc | apply pw_below_drewN | apply below_drew1) | exact HB.out)⟩
  · rw [if_neg c6] at H
    have c6b0 : (t296 == 0) = false := beq_eq_false_iff_ne.mpr c6
    have c6b1 : (t296 != 0) = true := bne_iff_ne.mpr c6
    simp only [Option.some.injEq, Prod.mk.injEq] at H
    obtain ⟨rfl, rfl⟩ := H
    go_enter Try.func18, Try.ntmps18
    go_wp2_with (first | ((with_reducible refine gate_callee (f := 30) rfl ?_); refine goesL_ (some 15) rfl rfl Try.func30 (by kernel_rfl) rfl #[.int .i64 a0, .int .i64 a1, .slice A2 l2.length c2, .int .i64 a3] rfl (by (try simp only [List.map_toArray, List.map_cons, List.map_nil]); first | done | rfl | (simp only [List.length_drop, List.length_take]; rfl)) ?_; (with_reducible refine (flatpack_Check.calls a0 a1 _ _ l2 a3 t296 _ ?side1 ?side2 A5.out).mono ?_); (case side1 => repeat (first | exact HR2.out | (with_reducible refine Kd.C_alloc ?_ _) | (with_reducible refine Kd.C_drewN ?_ _) | (with_reducible refine Kd.C_drew ?_))); (case side2 => exact HC2.out); rintro e w10 ⟨rfl, hb⟩; refine ⟨_, rfl, ?_⟩; have n0_ := Aside0.mk (below_step (by repeat (first | (with_reducible first | exact HB.out | apply below_alloc | apply pw_below_drewN | apply below_drew1) | exact HB.out)) hb); clear HB; have HB := n0_; clear n0_; (try clear hb); (try clear hb2); (try clear hk); (try clear hi)))
    go_ret2
    exact ⟨_, by first | rfl | (simp [errW_none, errW_some] <;> rfl) | (simp [*, errW_none, errW_some] <;> rfl), by first | exact Kd.S_nil _ _ _ _ _ | exact Kd.N_nil _ _ _ _ _ | exact Kd.V_nil _ _ _ _ _ | exact Kd.Q_nil _ _ _ _ _ | exact Kd.R_nil _ _ _ _ _, by repeat (first | (with_reducible first | exact HB.out | apply below_alloc | apply pw_below_drewN | apply below_drew1) | exact HB.out)⟩

/-! ### gangsawref25_Trim: function 20 -/
mutual
def gangsawref25_Trim.l0 : Nat → Int → List (List Int) → Int → Int → Option (Int × Int)
  | 0, _, _, _, _ => none
  | k + 1, x1, x10, x11, x12 => if 0 ≤ x12 then (if x12 < (x10.length : Int) then (if 0 ≤ x1 then (if x1 < ((rd_L5 x10 x12).length : Int) then (if (rd (rd_L5 x10 x12) x1) = x11 then (gangsawref25_Trim.l1 k x10 x11 x12 1) else (gangsawref25_Trim.l0 k x1 x10 x11 (wrap64 (x12 + 1)))) else (none)) else (none)) else (none)) else (none)
def gangsawref25_Trim.l1 : Nat → List (List Int) → Int → Int → Int → Option (Int × Int)
  | 0, _, _, _, _ => none
  | k + 1, x10, x11, x12, x13 => if 0 ≤ x12 then (if x12 < (x10.length : Int) then (if 0 ≤ x13 then (if x13 < ((rd_L5 x10 x12).length : Int) then (if (rd (rd_L5 x10 x12) x13) = x11 then (some (x12, x13)) else (gangsawref25_Trim.l1 k x10 x11 x12 (wrap64 (x13 + 1)))) else (none)) else (none)) else (none)) else (none)
end
def gangsawref25_Trim.f (k : Nat) (a0 : Int) (a1 : Int) (l2 : List (S36)) (a3 : Int) : Option (Int × Int) := (gangsawref25_Bounds.f k a0 a1 l2 a3).bind fun t300 => (if 0 ≤ a0 then (if a0 < (t300.length : Int) then (if 0 ≤ a1 then (if a1 < ((rd_L5 t300 a0).length : Int) then (gangsawref25_Trim.l0 k a1 t300 (rd (rd_L5 t300 a0) a1) 1) else (none)) else (none)) else (none)) else (none))
theorem gangsawref25_Trim.mono_l : ∀ k, (∀ y0 y1 y2 y3, LeO (gangsawref25_Trim.l0 k y0 y1 y2 y3) (gangsawref25_Trim.l0 (k + 1) y0 y1 y2 y3)) ∧ (∀ y0 y1 y2 y3, LeO (gangsawref25_Trim.l1 k y0 y1 y2 y3) (gangsawref25_Trim.l1 (k + 1) y0 y1 y2 y3))
  | 0 => ⟨fun _ _ _ _ r h => by simp [gangsawref25_Trim.l0] at h, fun _ _ _ _ r h => by simp [gangsawref25_Trim.l1] at h⟩
  | k + 1 => by
    obtain ⟨ih0, ih1⟩ := gangsawref25_Trim.mono_l k
    refine ⟨?_, ?_⟩
    · intro y0 y1 y2 y3
      unfold gangsawref25_Trim.l0
      repeat' first
      | (with_reducible exact ih0 _ _ _ _)
      | (with_reducible exact ih1 _ _ _ _)
      | (with_reducible exact gangsawref25_Bounds.mono _ _ _ _ _)
      | (with_reducible exact LeO.refl _)
      | (with_reducible exact LeO.none _)
      | (with_reducible refine LeO.ite ?_ ?_)
      | (with_reducible refine LeO.bind ?_ (fun _ => ?_))
      | exact ih0 _ _ _ _
      | exact ih1 _ _ _ _
      | exact gangsawref25_Bounds.mono _ _ _ _ _
      | exact LeO.none _
      | refine LeO.ite ?_ ?_
      | refine LeO.bind ?_ (fun _ => ?_)
    · intro y0 y1 y2 y3
      unfold gangsawref25_Trim.l1
      repeat' first
      | (with_reducible exact ih0 _ _ _ _)
      | (with_reducible exact ih1 _ _ _ _)
      | (with_reducible exact gangsawref25_Bounds.mono _ _ _ _ _)
      | (with_reducible exact LeO.refl _)
      | (with_reducible exact LeO.none _)
      | (with_reducible refine LeO.ite ?_ ?_)
      | (with_reducible refine LeO.bind ?_ (fun _ => ?_))
      | exact ih0 _ _ _ _
      | exact ih1 _ _ _ _
      | exact gangsawref25_Bounds.mono _ _ _ _ _
      | exact LeO.none _
      | refine LeO.ite ?_ ?_
      | refine LeO.bind ?_ (fun _ => ?_)
theorem gangsawref25_Trim.mono : ∀ a0 a1 a2 a3 k, LeO (gangsawref25_Trim.f k a0 a1 a2 a3) (gangsawref25_Trim.f (k + 1) a0 a1 a2 a3) := by
  intro a0 a1 a2 a3 k
  obtain ⟨ih0, ih1⟩ := gangsawref25_Trim.mono_l k
  unfold gangsawref25_Trim.f
  repeat' first
      | (with_reducible exact ih0 _ _ _ _)
      | (with_reducible exact ih1 _ _ _ _)
      | (with_reducible exact gangsawref25_Bounds.mono _ _ _ _ _)
      | (with_reducible exact LeO.refl _)
      | (with_reducible exact LeO.none _)
      | (with_reducible refine LeO.ite ?_ ?_)
      | (with_reducible refine LeO.bind ?_ (fun _ => ?_))
      | exact ih0 _ _ _ _
      | exact ih1 _ _ _ _
      | exact gangsawref25_Bounds.mono _ _ _ _ _
      | exact LeO.none _
      | refine LeO.ite ?_ ?_
      | refine LeO.bind ?_ (fun _ => ?_)
set_option maxHeartbeats 8000000 in
set_option maxRecDepth 100000 in
theorem gangsawref25_Trim.calls (k : Nat) (a0 : Int) (a1 : Int) (A2 : Option Addr) (c2 : Nat) (l2 : List (S36)) (a3 : Int) (r1 : Int) (r2 : Int) (w : World) (hr2 : Kd.C k36 w A2 l2.length l2) (hc2 : l2.length ≤ c2) (h : gangsawref25_Trim.f k a0 a1 l2 a3 = some (r1, r2)) :
    Calls Try.prog 20 #[.int .i64 a0, .int .i64 a1, .slice A2 l2.length c2, .int .i64 a3] w fun e w' => e = .returned (.tuple #[.int .i64 r1, .int .i64 r2]) ∧ Below w.heap.size w w' := by
  have HR2 := Aside0.mk hr2
  have HC2 := Aside0.mk hc2
  clear hr2 hc2
  have HB := Aside0.mk (Below.refl w.heap.size w)
  have H : ((gangsawref25_Bounds.f k a0 a1 l2 a3).bind fun t300 => (if 0 ≤ a0 then (if a0 < (t300.length : Int) then (if 0 ≤ a1 then (if a1 < ((rd_L5 t300 a0).length : Int) then (gangsawref25_Trim.l0 k a1 t300 (rd (rd_L5 t300 a0) a1) 1) else (none)) else (none)) else (none)) else (none))) = some (r1, r2) := h
  clear h
  replace H := Option.bind_eq_some_iff.mp H
  obtain ⟨t300, A50, H⟩ := H
  replace H : (if 0 ≤ a0 then (if a0 < (t300.length : Int) then (if 0 ≤ a1 then (if a1 < ((rd_L5 t300 a0).length : Int) then (gangsawref25_Trim.l0 k a1 t300 (rd (rd_L5 t300 a0) a1) 1) else (none)) else (none)) else (none)) else (none)) = some (r1, r2) := H
  have A5 := Aside0.mk A50
  clear A50
  by_cases c6 : 0 ≤ a0
  · rw [if_pos c6] at H
    have c6b0 : decide (0 ≤ a0) = true := decide_eq_true c6
    clear c6
    by_cases c7 : a0 < (t300.length : Int)
    · rw [if_pos c7] at H
      have c7b0 : decide (a0 < (t300.length : Int)) = true := decide_eq_true c7
      clear c7
      by_cases c8 : 0 ≤ a1
      · rw [if_pos c8] at H
        have c8b0 : decide (0 ≤ a1) = true := decide_eq_true c8
        clear c8
        by_cases c9 : a1 < ((rd_L5 t300 a0).length : Int)
        · rw [if_pos c9] at H
          have c9b0 : decide (a1 < ((rd_L5 t300 a0).length : Int)) = true := decide_eq_true c9
          clear c9
          have H' := Aside0.mk H
          clear H
          go_enter Try.func20, Try.ntmps20
          go_wp2_with (first | ((with_reducible refine gate_callee (f := 23) rfl ?_); refine goesL_ (some 18) rfl rfl Try.func23 (by kernel_rfl) rfl #[.int .i64 a0, .int .i64 a1, .slice A2 l2.length c2, .int .i64 a3] rfl (by (try simp only [List.map_toArray, List.map_cons, List.map_nil]); first | done | rfl | (simp only [List.length_drop, List.length_take]; rfl)) ?_; (with_reducible refine (gangsawref25_Bounds.calls k a0 a1 _ _ l2 a3 t300 _ ?side1 ?side2 A5.out).mono ?_); (case side1 => repeat (first | exact HR2.out | (with_reducible refine Kd.C_alloc ?_ _) | (with_reducible refine Kd.C_drewN ?_ _) | (with_reducible refine Kd.C_drew ?_))); (case side2 => exact HC2.out); rintro e w10 ⟨v301, rfl, ho0, hb⟩; refine ⟨_, rfl, ?_⟩; have n0_ := Aside0.mk (Kd.S_lower ho0 (below_size (by repeat (first | (with_reducible first | exact HB.out | apply below_alloc | apply pw_below_drewN | apply below_drew1) | exact HB.out)))); have n1_ := Aside0.mk (below_step (by repeat (first | (with_reducible first | exact HB.out | apply below_alloc | apply pw_below_drewN | apply below_drew1) | exact HB.out)) hb); clear HB; have HO302 := n0_; have HB := n1_; clear n0_ n1_; (try clear hb); (try clear hb2); (try clear hk); (try clear hi); (try clear ho0); obtain ⟨Ao11, co11, eo11⟩ := Kd.S_slice HO302.out; subst eo11; have p303 : 0 ≤ (a0 : Int) := of_decide_eq_true (by first | (with_reducible assumption) | assumption); have q303 : a0 < (t300.length : Int) := of_decide_eq_true (by first | (with_reducible assumption) | assumption); obtain ⟨ad303, A303_0, c303_0, e303, hx303_0, hl303_0, hi303_0⟩ := at_L5 (Kd.S_reads' HO302.out).2.2 a0 p303 q303; cases e303; obtain ⟨ce303, hce303, hMe303, hcc303⟩ := Kd.S_get HO302.out [] a0 p303 (by first | exact q303 | exact of_decide_eq_true (by first | (with_reducible assumption) | assumption) | (have e_ := (Kd.S_reads' HO302.out).1; omega)); obtain ⟨ve303_0, rfl, ge303_0⟩ := hMe303; have hv303_0 := hcc303 0 _ rfl; rw [Nat.add_zero, show ((Kd.slice 2 (Kd.int .i64))).sz = 1 from rfl, Nat.mul_one] at hv303_0; replace hv303_0 := Option.some.inj (hv303_0.symm.trans hx303_0); rw [hv303_0] at ge303_0; have HL303_0 := Aside0.mk (show Kd.R (Kd.int .i64) 2 _ _ _ _ (rd_L5 t300 a0) from ge303_0); clear hv303_0 ge303_0; clear hcc303 hce303; have HR303_0 := Aside0.mk hi303_0; have HC303_0 := Aside0.mk hl303_0; clear hi303_0 hl303_0; replace p303 := eq_true p303; replace q303 := eq_true q303; have p304 : 0 ≤ (a1 : Int) := of_decide_eq_true (by first | (with_reducible assumption) | assumption); have q304 : a1 < ((rd_L5 t300 a0).length : Int) := of_decide_eq_true (by first | (with_reducible assumption) | assumption); obtain ⟨ad304, e304, hx304_0⟩ := Kd.at_int (by repeat (first | (with_reducible exact HR303_0.out) | (with_reducible refine Kd.C_alloc ?_ _) | (with_reducible refine Kd.C_drewN ?_ _) | (with_reducible refine Kd.C_drew ?_) | exact HR303_0.out)) a1 p304 q304; cases e304; replace p304 := eq_true p304; replace q304 := eq_true q304))
          go_loopg [12] k (fun kq v12 w' => ∃ (x12_1 : Int), v12 = .int .i64 x12_1 ∧ Aside0 (gangsawref25_Trim.l0 kq a1 t300 (rd (rd_L5 t300 a0) a1) x12_1 = some (r1, r2)) ∧ Aside0 (kq ≤ k) ∧ Aside0 (Kd.S (Kd.slice 2 (Kd.int .i64)) 54 w' w.heap.size (fun _ => True) (.slice (some ad303) t300.length co11) t300) ∧ Aside0 (Kd.C (Kd.int .i64) w' (some ad304) (rd_L5 t300 a0).length (rd_L5 t300 a0)) ∧ Aside0 (Below w.heap.size w w'))
          case atStart => exact ⟨(1), (by first | rfl | (simp; done) | (simp [*]; done)), H', ⟨Nat.le_refl _⟩, ⟨by (with_reducible repeat (first | apply Kd.S_alloc | apply Kd.S_drewN | apply Kd.S_drew)); exact HO302.out⟩, ⟨by repeat (first | (with_reducible exact HR303_0.out) | (with_reducible refine Kd.C_alloc ?_ _) | (with_reducible refine Kd.C_drewN ?_ _) | (with_reducible refine Kd.C_drew ?_) | exact HR303_0.out)⟩, ⟨by repeat (first | (with_reducible first | exact HB.out | apply below_alloc | apply pw_below_drewN | apply below_drew1) | exact HB.out)⟩⟩
          case round =>
            clear H'
            try clear c2
            try clear p2
            try clear c3
            try clear p3
            try clear q3
            try clear hx3
            try clear c6
            try clear c6b0
            try clear c7
            try clear c7b0
            try clear c8
            try clear c8b0
            try clear c9
            try clear c9b0
            try clear hx303_0
            try clear hx304_0
            try clear p303
            try clear p304
            try clear q303
            try clear q304
            obtain ⟨x12_1, rfl, HA, HK1, HO_10, HR303_0, HB⟩ := hrel
            cases gk with
            | zero => exact absurd HA.out (by simp [gangsawref25_Trim.l0])
            | succ k1 =>
              have H := HA.out
              clear HA
              simp only [gangsawref25_Trim.l0] at H
              by_cases c12 : 0 ≤ x12_1
              · rw [if_pos c12] at H
                have c12b0 : decide (0 ≤ x12_1) = true := decide_eq_true c12
                clear c12
                by_cases c13 : x12_1 < (t300.length : Int)
                · rw [if_pos c13] at H
                  have c13b0 : decide (x12_1 < (t300.length : Int)) = true := decide_eq_true c13
                  clear c13
                  by_cases c14 : 0 ≤ a1
                  · rw [if_pos c14] at H
                    have c14b0 : decide (0 ≤ a1) = true := decide_eq_true c14
                    clear c14
                    by_cases c15 : a1 < ((rd_L5 t300 x12_1).length : Int)
                    · rw [if_pos c15] at H
                      have c15b0 : decide (a1 < ((rd_L5 t300 x12_1).length : Int)) = true := decide_eq_true c15
                      clear c15
                      by_cases c16 : (rd (rd_L5 t300 x12_1) a1) = (rd (rd_L5 t300 a0) a1)
                      · rw [if_pos c16] at H
                        have c16b0 : ((rd (rd_L5 t300 x12_1) a1) == (rd (rd_L5 t300 a0) a1)) = true := beq_iff_eq.mpr c16
                        have c16b1 : ((rd (rd_L5 t300 x12_1) a1) != (rd (rd_L5 t300 a0) a1)) = false := bne_eq_false_iff_eq.mpr c16
                        clear c16
                        have H' := Aside0.mk H
                        clear H
                        have p305 : 0 ≤ (x12_1 : Int) := of_decide_eq_true (by first | (with_reducible assumption) | assumption)
                        have q305 : x12_1 < (t300.length : Int) := of_decide_eq_true (by first | (with_reducible assumption) | assumption)
                        obtain ⟨ad305, A305_0, c305_0, e305, hx305_0, hl305_0, hi305_0⟩ := at_L5 (Kd.S_reads' HO_10.out).2.2 x12_1 p305 q305
                        obtain rfl : ad303 = ad305 := (by injection e305)
                        obtain ⟨ce305, hce305, hMe305, hcc305⟩ := Kd.S_get HO_10.out [] x12_1 p305 (by first | exact q305 | exact of_decide_eq_true (by first | (with_reducible assumption) | assumption) | (have e_ := (Kd.S_reads' HO_10.out).1; omega))
                        obtain ⟨ve305_0, rfl, ge305_0⟩ := hMe305
                        have hv305_0 := hcc305 0 _ rfl
                        rw [Nat.add_zero, show ((Kd.slice 2 (Kd.int .i64))).sz = 1 from rfl, Nat.mul_one] at hv305_0
                        replace hv305_0 := Option.some.inj (hv305_0.symm.trans hx305_0)
                        rw [hv305_0] at ge305_0
                        have HL305_0 := Aside0.mk (show Kd.R (Kd.int .i64) 2 _ _ _ _ (rd_L5 t300 x12_1) from ge305_0)
                        clear hv305_0 ge305_0
                        clear hcc305 hce305
                        have HR305_0 := Aside0.mk hi305_0
                        have HC305_0 := Aside0.mk hl305_0
                        clear hi305_0 hl305_0
                        replace p305 := eq_true p305
                        replace q305 := eq_true q305
                        have p306 : 0 ≤ (a1 : Int) := of_decide_eq_true (by first | (with_reducible assumption) | assumption)
                        have q306 : a1 < ((rd_L5 t300 x12_1).length : Int) := of_decide_eq_true (by first | (with_reducible assumption) | assumption)
                        obtain ⟨ad306, e306, hx306_0⟩ := Kd.at_int (by repeat (first | (with_reducible exact HR305_0.out) | (with_reducible refine Kd.C_alloc ?_ _) | (with_reducible refine Kd.C_drewN ?_ _) | (with_reducible refine Kd.C_drew ?_) | exact HR305_0.out)) a1 p306 q306
                        cases e306
                        replace p306 := eq_true p306
                        replace q306 := eq_true q306
                        go_wp2
                        go_loopg [13] k1 (fun kq v13 w' => ∃ (x13_2 : Int), v13 = .int .i64 x13_2 ∧ Aside0 (gangsawref25_Trim.l1 kq t300 (rd (rd_L5 t300 a0) a1) x12_1 x13_2 = some (r1, r2)) ∧ Aside0 (kq ≤ k1) ∧ Aside0 (Kd.S (Kd.slice 2 (Kd.int .i64)) 54 w' w.heap.size (fun _ => True) (.slice (some ad303) t300.length co11) t300) ∧ Aside0 (Kd.C (Kd.int .i64) w' (some ad304) (rd_L5 t300 a0).length (rd_L5 t300 a0)) ∧ Aside0 (Kd.C (Kd.int .i64) w' (some ad306) (rd_L5 t300 x12_1).length (rd_L5 t300 x12_1)) ∧ Aside0 (Below w.heap.size w w'))
                        case atStart => exact ⟨(1), (by first | rfl | (simp; done) | (simp [*]; done)), H', ⟨Nat.le_refl _⟩, ⟨by (with_reducible repeat (first | apply Kd.S_alloc | apply Kd.S_drewN | apply Kd.S_drew)); exact HO_10.out⟩, ⟨by repeat (first | (with_reducible exact HR303_0.out) | (with_reducible refine Kd.C_alloc ?_ _) | (with_reducible refine Kd.C_drewN ?_ _) | (with_reducible refine Kd.C_drew ?_) | exact HR303_0.out)⟩, ⟨by repeat (first | (with_reducible exact HR305_0.out) | (with_reducible refine Kd.C_alloc ?_ _) | (with_reducible refine Kd.C_drewN ?_ _) | (with_reducible refine Kd.C_drew ?_) | exact HR305_0.out)⟩, ⟨by repeat (first | (with_reducible first | exact HB.out | apply below_alloc | apply pw_below_drewN | apply below_drew1) | exact HB.out)⟩⟩
                        case round =>
                          clear H'
                          try clear c1
                          try clear c2
                          try clear p2
                          try clear c3
                          try clear p3
                          try clear q3
                          try clear hx3
                          try clear c6
                          try clear c6b0
                          try clear c7
                          try clear c7b0
                          try clear c8
                          try clear c8b0
                          try clear c9
                          try clear c9b0
                          try clear c12
                          try clear c12b0
                          try clear c13
                          try clear c13b0
                          try clear c14
                          try clear c14b0
                          try clear c15
                          try clear c15b0
                          try clear c16
                          try clear c16b0
                          try clear c16b1
                          try clear hx303_0
                          try clear hx304_0
                          try clear hx305_0
                          try clear hx306_0
                          try clear p2
                          try clear p3
                          try clear p303
                          try clear p304
                          try clear p305
                          try clear p306
                          try clear q3
                          try clear q303
                          try clear q304
                          try clear q305
                          try clear q306
                          obtain ⟨x13_2, rfl, HA, HK2, HO_10, HR303_0, HR305_0, HB⟩ := hrel
                          cases gk with
                          | zero => exact absurd HA.out (by simp [gangsawref25_Trim.l1])
                          | succ k2 =>
                            have H := HA.out
                            clear HA
                            simp only [gangsawref25_Trim.l1] at H
                            by_cases c17 : 0 ≤ x12_1
                            · rw [if_pos c17] at H
                              have c17b0 : decide (0 ≤ x12_1) = true := decide_eq_true c17
                              clear c17
                              by_cases c18 : x12_1 < (t300.length : Int)
                              · rw [if_pos c18] at H
                                have c18b0 : decide (x12_1 < (t300.length : Int)) = true := decide_eq_true c18
                                clear c18
                                by_cases c19 : 0 ≤ x13_2
                                · rw [if_pos c19] at H
                                  have c19b0 : decide (0 ≤ x13_2) = true := decide_eq_true c19
                                  clear c19
                                  by_cases c20 : x13_2 < ((rd_L5 t300 x12_1).length : Int)
                                  · rw [if_pos c20] at H
                                    have c20b0 : decide (x13_2 < ((rd_L5 t300 x12_1).length : Int)) = true := decide_eq_true c20
                                    clear c20
                                    by_cases c21 : (rd (rd_L5 t300 x12_1) x13_2) = (rd (rd_L5 t300 a0) a1)
                                    · rw [if_pos c21] at H
                                      have c21b0 : ((rd (rd_L5 t300 x12_1) x13_2) == (rd (rd_L5 t300 a0) a1)) = true := beq_iff_eq.mpr c21
                                      have c21b1 : ((rd (rd_L5 t300 x12_1) x13_2) != (rd (rd_L5 t300 a0) a1)) = false := bne_eq_false_iff_eq.mpr c21
                                      clear c21
                                      simp only [Option.some.injEq, Prod.mk.injEq] at H
                                      obtain ⟨rfl, rfl⟩ := H
                                      have p307 : 0 ≤ (x12_1 : Int) := of_decide_eq_true (by first | (with_reducible assumption) | assumption)
                                      have q307 : x12_1 < (t300.length : Int) := of_decide_eq_true (by first | (with_reducible assumption) | assumption)
                                      obtain ⟨ad307, A307_0, c307_0, e307, hx307_0, hl307_0, hi307_0⟩ := at_L5 (Kd.S_reads' HO_10.out).2.2 x12_1 p307 q307
                                      obtain rfl : ad303 = ad307 := (by injection e307)
                                      obtain ⟨ce307, hce307, hMe307, hcc307⟩ := Kd.S_get HO_10.out [] x12_1 p307 (by first | exact q307 | exact of_decide_eq_true (by first | (with_reducible assumption) | assumption) | (have e_ := (Kd.S_reads' HO_10.out).1; omega))
                                      obtain ⟨ve307_0, rfl, ge307_0⟩ := hMe307
                                      have hv307_0 := hcc307 0 _ rfl
                                      rw [Nat.add_zero, show ((Kd.slice 2 (Kd.int .i64))).sz = 1 from rfl, Nat.mul_one] at hv307_0
                                      replace hv307_0 := Option.some.inj (hv307_0.symm.trans hx307_0)
                                      rw [hv307_0] at ge307_0
                                      have HL307_0 := Aside0.mk (show Kd.R (Kd.int .i64) 2 _ _ _ _ (rd_L5 t300 x12_1) from ge307_0)
                                      clear hv307_0 ge307_0
                                      clear hcc307 hce307
                                      have HR307_0 := Aside0.mk hi307_0
                                      have HC307_0 := Aside0.mk hl307_0
                                      clear hi307_0 hl307_0
                                      replace p307 := eq_true p307
                                      replace q307 := eq_true q307
                                      have p308 : 0 ≤ (x13_2 : Int) := of_decide_eq_true (by first | (with_reducible assumption) | assumption)
                                      have q308 : x13_2 < ((rd_L5 t300 x12_1).length : Int) := of_decide_eq_true (by first | (with_reducible assumption) | assumption)
                                      obtain ⟨ad308, e308, hx308_0⟩ := Kd.at_int (by repeat (first | (with_reducible exact HR307_0.out) | (with_reducible refine Kd.C_alloc ?_ _) | (with_reducible refine Kd.C_drewN ?_ _) | (with_reducible refine Kd.C_drew ?_) | exact HR307_0.out)) x13_2 p308 q308
                                      cases e308
                                      replace p308 := eq_true p308
                                      replace q308 := eq_true q308
                                      go_wp2
                                      go_ret2
                                      exact ⟨by first | rfl | (simp [errW_none, errW_some] <;> rfl) | (simp [*, errW_none, errW_some] <;> rfl), by repeat (first | (with_reducible first | exact HB.out | apply below_alloc | apply pw_below_drewN | apply below_drew1) | exact HB.out)⟩
                                    · rw [if_neg c21] at H
                                      have c21b0 : ((rd (rd_L5 t300 x12_1) x13_2) == (rd (rd_L5 t300 a0) a1)) = false := beq_eq_false_iff_ne.mpr c21
                                      have c21b1 : ((rd (rd_L5 t300 x12_1) x13_2) != (rd (rd_L5 t300 a0) a1)) = true := bne_iff_ne.mpr c21
                                      have H' := Aside0.mk H
                                      clear H
                                      have p307 : 0 ≤ (x12_1 : Int) := of_decide_eq_true (by first | (with_reducible assumption) | assumption)
                                      have q307 : x12_1 < (t300.length : Int) := of_decide_eq_true (by first | (with_reducible assumption) | assumption)
                                      obtain ⟨ad307, A307_0, c307_0, e307, hx307_0, hl307_0, hi307_0⟩ := at_L5 (Kd.S_reads' HO_10.out).2.2 x12_1 p307 q307
                                      obtain rfl : ad303 = ad307 := (by injection e307)
                                      obtain ⟨ce307, hce307, hMe307, hcc307⟩ := Kd.S_get HO_10.out [] x12_1 p307 (by first | exact q307 | exact of_decide_eq_true (by first | (with_reducible assumption) | assumption) | (have e_ := (Kd.S_reads' HO_10.out).1; omega))
                                      obtain ⟨ve307_0, rfl, ge307_0⟩ := hMe307
                                      have hv307_0 := hcc307 0 _ rfl
                                      rw [Nat.add_zero, show ((Kd.slice 2 (Kd.int .i64))).sz = 1 from rfl, Nat.mul_one] at hv307_0
                                      replace hv307_0 := Option.some.inj (hv307_0.symm.trans hx307_0)
                                      rw [hv307_0] at ge307_0
                                      have HL307_0 := Aside0.mk (show Kd.R (Kd.int .i64) 2 _ _ _ _ (rd_L5 t300 x12_1) from ge307_0)
                                      clear hv307_0 ge307_0
                                      clear hcc307 hce307
                                      have HR307_0 := Aside0.mk hi307_0
                                      have HC307_0 := Aside0.mk hl307_0
                                      clear hi307_0 hl307_0
                                      replace p307 := eq_true p307
                                      replace q307 := eq_true q307
                                      have p308 : 0 ≤ (x13_2 : Int) := of_decide_eq_true (by first | (with_reducible assumption) | assumption)
                                      have q308 : x13_2 < ((rd_L5 t300 x12_1).length : Int) := of_decide_eq_true (by first | (with_reducible assumption) | assumption)
                                      obtain ⟨ad308, e308, hx308_0⟩ := Kd.at_int (by repeat (first | (with_reducible exact HR307_0.out) | (with_reducible refine Kd.C_alloc ?_ _) | (with_reducible refine Kd.C_drewN ?_ _) | (with_reducible refine Kd.C_drew ?_) | exact HR307_0.out)) x13_2 p308 q308
                                      cases e308
                                      replace p308 := eq_true p308
                                      replace q308 := eq_true q308
                                      go_wp2
                                      go_roundg k2
                                      case measure => have := HK1.out; have := HK2.out; omega
                                      case rel => exact ⟨(wrap64 (x13_2 + 1)), (by first | rfl | (simp; done) | (simp [*]; done)), H', ⟨by have := HK1.out; have := HK2.out; omega⟩, ⟨by (with_reducible repeat (first | apply Kd.S_alloc | apply Kd.S_drewN | apply Kd.S_drew)); exact HO_10.out⟩, ⟨by repeat (first | (with_reducible exact HR303_0.out) | (with_reducible refine Kd.C_alloc ?_ _) | (with_reducible refine Kd.C_drewN ?_ _) | (with_reducible refine Kd.C_drew ?_) | exact HR303_0.out)⟩, ⟨by repeat (first | (with_reducible exact HR305_0.out) | (with_reducible refine Kd.C_alloc ?_ _) | (with_reducible refine Kd.C_drewN ?_ _) | (with_reducible refine Kd.C_drew ?_) | exact HR305_0.out)⟩, ⟨by repeat (first | (with_reducible first | exact HB.out | apply below_alloc | apply pw_below_drewN | apply below_drew1) | exact HB.out)⟩⟩
                                  · rw [if_neg c20] at H
                                    exact absurd H (by simp)
                                · rw [if_neg c19] at H
                                  exact absurd H (by simp)
                              · rw [if_neg c18] at H
                                exact absurd H (by simp)
                            · rw [if_neg c17] at H
                              exact absurd H (by simp)
                      · rw [if_neg c16] at H
                        have c16b0 : ((rd (rd_L5 t300 x12_1) a1) == (rd (rd_L5 t300 a0) a1)) = false := beq_eq_false_iff_ne.mpr c16
                        have c16b1 : ((rd (rd_L5 t300 x12_1) a1) != (rd (rd_L5 t300 a0) a1)) = true := bne_iff_ne.mpr c16
                        have H' := Aside0.mk H
                        clear H
                        have p305 : 0 ≤ (x12_1 : Int) := of_decide_eq_true (by first | (with_reducible assumption) | assumption)
                        have q305 : x12_1 < (t300.length : Int) := of_decide_eq_true (by first | (with_reducible assumption) | assumption)
                        obtain ⟨ad305, A305_0, c305_0, e305, hx305_0, hl305_0, hi305_0⟩ := at_L5 (Kd.S_reads' HO_10.out).2.2 x12_1 p305 q305
                        obtain rfl : ad303 = ad305 := (by injection e305)
                        obtain ⟨ce305, hce305, hMe305, hcc305⟩ := Kd.S_get HO_10.out [] x12_1 p305 (by first | exact q305 | exact of_decide_eq_true (by first | (with_reducible assumption) | assumption) | (have e_ := (Kd.S_reads' HO_10.out).1; omega))
                        obtain ⟨ve305_0, rfl, ge305_0⟩ := hMe305
                        have hv305_0 := hcc305 0 _ rfl
                        rw [Nat.add_zero, show ((Kd.slice 2 (Kd.int .i64))).sz = 1 from rfl, Nat.mul_one] at hv305_0
                        replace hv305_0 := Option.some.inj (hv305_0.symm.trans hx305_0)
                        rw [hv305_0] at ge305_0
                        have HL305_0 := Aside0.mk (show Kd.R (Kd.int .i64) 2 _ _ _ _ (rd_L5 t300 x12_1) from ge305_0)
                        clear hv305_0 ge305_0
                        clear hcc305 hce305
                        have HR305_0 := Aside0.mk hi305_0
                        have HC305_0 := Aside0.mk hl305_0
                        clear hi305_0 hl305_0
                        replace p305 := eq_true p305
                        replace q305 := eq_true q305
                        have p306 : 0 ≤ (a1 : Int) := of_decide_eq_true (by first | (with_reducible assumption) | assumption)
                        have q306 : a1 < ((rd_L5 t300 x12_1).length : Int) := of_decide_eq_true (by first | (with_reducible assumption) | assumption)
                        obtain ⟨ad306, e306, hx306_0⟩ := Kd.at_int (by repeat (first | (with_reducible exact HR305_0.out) | (with_reducible refine Kd.C_alloc ?_ _) | (with_reducible refine Kd.C_drewN ?_ _) | (with_reducible refine Kd.C_drew ?_) | exact HR305_0.out)) a1 p306 q306
                        cases e306
                        replace p306 := eq_true p306
                        replace q306 := eq_true q306
                        go_wp2
                        go_roundg k1
                        case measure => have := HK1.out; omega
                        case rel => exact ⟨(wrap64 (x12_1 + 1)), (by first | rfl | (simp; done) | (simp [*]; done)), H', ⟨by have := HK1.out; omega⟩, ⟨by (with_reducible repeat (first | apply Kd.S_alloc | apply Kd.S_drewN | apply Kd.S_drew)); exact HO_10.out⟩, ⟨by repeat (first | (with_reducible exact HR303_0.out) | (with_reducible refine Kd.C_alloc ?_ _) | (with_reducible refine Kd.C_drewN ?_ _) | (with_reducible refine Kd.C_drew ?_) | exact HR303_0.out)⟩, ⟨by repeat (first | (with_reducible first | exact HB.out | apply below_alloc | apply pw_below_drewN | apply below_drew1) | exact HB.out)⟩⟩
                    · rw [if_neg c15] at H
                      exact absurd H (by simp)
                  · rw [if_neg c14] at H
                    exact absurd H (by simp)
                · rw [if_neg c13] at H
                  exact absurd H (by simp)
              · rw [if_neg c12] at H
                exact absurd H (by simp)
        · rw [if_neg c9] at H
          exact absurd H (by simp)
      · rw [if_neg c8] at H
        exact absurd H (by simp)
    · rw [if_neg c7] at H
      exact absurd H (by simp)
  · rw [if_neg c6] at H
    exact absurd H (by simp)

/-! ### gangsawref25_Best: function 21 -/
def gangsawref25_Best.f (k : Nat) (a0 : Int) (a1 : Int) (l2 : List (S36)) (a3 : Int) : Option (Int) := (gangsawref25_Bounds.f k a0 a1 l2 a3).bind fun t309 => (if 0 ≤ a0 then (if a0 < (t309.length : Int) then (if 0 ≤ a1 then (if a1 < ((rd_L5 t309 a0).length : Int) then (some (rd (rd_L5 t309 a0) a1)) else (none)) else (none)) else (none)) else (none))
theorem gangsawref25_Best.mono : ∀ a0 a1 a2 a3 k, LeO (gangsawref25_Best.f k a0 a1 a2 a3) (gangsawref25_Best.f (k + 1) a0 a1 a2 a3) := by
  intro a0 a1 a2 a3 k
  unfold gangsawref25_Best.f
  repeat' first
      | (with_reducible exact gangsawref25_Bounds.mono _ _ _ _ _)
      | (with_reducible exact LeO.refl _)
      | (with_reducible exact LeO.none _)
      | (with_reducible refine LeO.ite ?_ ?_)
      | (with_reducible refine LeO.bind ?_ (fun _ => ?_))
      | exact gangsawref25_Bounds.mono _ _ _ _ _
      | exact LeO.none _
      | refine LeO.ite ?_ ?_
      | refine LeO.bind ?_ (fun _ => ?_)
set_option maxHeartbeats 8000000 in
set_option maxRecDepth 100000 in
theorem gangsawref25_Best.calls (k : Nat) (a0 : Int) (a1 : Int) (A2 : Option Addr) (c2 : Nat) (l2 : List (S36)) (a3 : Int) (r : Int) (w : World) (hr2 : Kd.C k36 w A2 l2.length l2) (hc2 : l2.length ≤ c2) (h : gangsawref25_Best.f k a0 a1 l2 a3 = some r) :
    Calls Try.prog 21 #[.int .i64 a0, .int .i64 a1, .slice A2 l2.length c2, .int .i64 a3] w fun e w' => e = .returned (.int .i64 r) ∧ Below w.heap.size w w' := by
  have HR2 := Aside0.mk hr2
  have HC2 := Aside0.mk hc2
  clear hr2 hc2
  have HB := Aside0.mk (Below.refl w.heap.size w)
  have H : ((gangsawref25_Bounds.f k a0 a1 l2 a3).bind fun t309 => (if 0 ≤ a0 then (if a0 < (t309.length : Int) then (if 0 ≤ a1 then (if a1 < ((rd_L5 t309 a0).length : Int) then (some (rd (rd_L5 t309 a0) a1)) else (none)) else (none)) else (none)) else (none))) = some r := h
  clear h
  replace H := Option.bind_eq_some_iff.mp H
  obtain ⟨t309, A50, H⟩ := H
  replace H : (if 0 ≤ a0 then (if a0 < (t309.length : Int) then (if 0 ≤ a1 then (if a1 < ((rd_L5 t309 a0).length : Int) then (some (rd (rd_L5 t309 a0) a1)) else (none)) else (none)) else (none)) else (none)) = some r := H
  have A5 := Aside0.mk A50
  clear A50
  by_cases c6 : 0 ≤ a0
  · rw [if_pos c6] at H
    have c6b0 : decide (0 ≤ a0) = true := decide_eq_true c6
    clear c6
    by_cases c7 : a0 < (t309.length : Int)
    · rw [if_pos c7] at H
      have c7b0 : decide (a0 < (t309.length : Int)) = true := decide_eq_true c7
      clear c7
      by_cases c8 : 0 ≤ a1
      · rw [if_pos c8] at H
        have c8b0 : decide (0 ≤ a1) = true := decide_eq_true c8
        clear c8
        by_cases c9 : a1 < ((rd_L5 t309 a0).length : Int)
        · rw [if_pos c9] at H
          have c9b0 : decide (a1 < ((rd_L5 t309 a0).length : Int)) = true := decide_eq_true c9
          clear c9
          obtain rfl := Option.some.inj H
          go_enter Try.func21, Try.ntmps21
          go_wp2_with (first | ((with_reducible refine gate_callee (f := 23) rfl ?_); refine goesL_ (some 13) rfl rfl Try.func23 (by kernel_rfl) rfl #[.int .i64 a0, .int .i64 a1, .slice A2 l2.length c2, .int .i64 a3] rfl (by (try simp only [List.map_toArray, List.map_cons, List.map_nil]); first | done | rfl | (simp only [List.length_drop, List.length_take]; rfl)) ?_; (with_reducible refine (gangsawref25_Bounds.calls k a0 a1 _ _ l2 a3 t309 _ ?side1 ?side2 A5.out).mono ?_); (case side1 => repeat (first | exact HR2.out | (with_reducible refine Kd.C_alloc ?_ _) | (with_reducible refine Kd.C_drewN ?_ _) | (with_reducible refine Kd.C_drew ?_))); (case side2 => exact HC2.out); rintro e w10 ⟨v310, rfl, ho0, hb⟩; refine ⟨_, rfl, ?_⟩; have n0_ := Aside0.mk (Kd.S_lower ho0 (below_size (by repeat (first | (with_reducible first | exact HB.out | apply below_alloc | apply pw_below_drewN | apply below_drew1) | exact HB.out)))); have n1_ := Aside0.mk (below_step (by repeat (first | (with_reducible first | exact HB.out | apply below_alloc | apply pw_below_drewN | apply below_drew1) | exact HB.out)) hb); clear HB; have HO311 := n0_; have HB := n1_; clear n0_ n1_; (try clear hb); (try clear hb2); (try clear hk); (try clear hi); (try clear ho0); obtain ⟨Ao11, co11, eo11⟩ := Kd.S_slice HO311.out; subst eo11; have p312 : 0 ≤ (a0 : Int) := of_decide_eq_true (by first | (with_reducible assumption) | assumption); have q312 : a0 < (t309.length : Int) := of_decide_eq_true (by first | (with_reducible assumption) | assumption); obtain ⟨ad312, A312_0, c312_0, e312, hx312_0, hl312_0, hi312_0⟩ := at_L5 (Kd.S_reads' HO311.out).2.2 a0 p312 q312; cases e312; obtain ⟨ce312, hce312, hMe312, hcc312⟩ := Kd.S_get HO311.out [] a0 p312 (by first | exact q312 | exact of_decide_eq_true (by first | (with_reducible assumption) | assumption) | (have e_ := (Kd.S_reads' HO311.out).1; omega)); obtain ⟨ve312_0, rfl, ge312_0⟩ := hMe312; have hv312_0 := hcc312 0 _ rfl; rw [Nat.add_zero, show ((Kd.slice 2 (Kd.int .i64))).sz = 1 from rfl, Nat.mul_one] at hv312_0; replace hv312_0 := Option.some.inj (hv312_0.symm.trans hx312_0); rw [hv312_0] at ge312_0; have HL312_0 := Aside0.mk (show Kd.R (Kd.int .i64) 2 _ _ _ _ (rd_L5 t309 a0) from ge312_0); clear hv312_0 ge312_0; clear hcc312 hce312; have HR312_0 := Aside0.mk hi312_0; have HC312_0 := Aside0.mk hl312_0; clear hi312_0 hl312_0; replace p312 := eq_true p312; replace q312 := eq_true q312; have p313 : 0 ≤ (a1 : Int) := of_decide_eq_true (by first | (with_reducible assumption) | assumption); have q313 : a1 < ((rd_L5 t309 a0).length : Int) := of_decide_eq_true (by first | (with_reducible assumption) | assumption); obtain ⟨ad313, e313, hx313_0⟩ := Kd.at_int (by repeat (first | (with_reducible exact HR312_0.out) | (with_reducible refine Kd.C_alloc ?_ _) | (with_reducible refine Kd.C_drewN ?_ _) | (with_reducible refine Kd.C_drew ?_) | exact HR312_0.out)) a1 p313 q313; cases e313; replace p313 := eq_true p313; replace q313 := eq_true q313))
          go_ret
          exact ⟨by first | rfl | (simp [errW_none, errW_some] <;> rfl) | (simp [*, errW_none, errW_some] <;> rfl), by repeat (first | (with_reducible first | exact HB.out | apply below_alloc | apply pw_below_drewN | apply below_drew1) | exact HB.out)⟩
        · rw [if_neg c9] at H
          exact absurd H (by simp)
      · rw [if_neg c8] at H
        exact absurd H (by simp)
    · rw [if_neg c7] at H
      exact absurd H (by simp)
  · rw [if_neg c6] at H
    exact absurd H (by simp)

end
end Go.Proofs.Ytdnjagfbhppmbaa.PA
