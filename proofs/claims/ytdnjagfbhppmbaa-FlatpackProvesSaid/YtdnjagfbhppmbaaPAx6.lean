-- Written by a program of this session out of the translation, over functions proved by hand.
import Derived.Test.YtdnjagfbhppmbaaPAx0
import Derived.Test.YtdnjagfbhppmbaaPAx5
namespace Go.Proofs.Ytdnjagfbhppmbaa.PA
open Go.RowKit Go.Proofs.YtdnjagfbhppmbaaW.PrintWords Go.Proofs.YtdnjagfbhppmbaaW.PrintLast Go.Proofs.YtdnjagfbhppmbaaW.PrintMore
attribute [local go_sem] max2_int min2_int max_two min_two max_three min_three max_four min_four   -- for this text's walks alone
set_option linter.unusedVariables false
set_option linter.unusedSimpArgs false

/-! ### gangsawref25_Bounds: function 23 -/
mutual
def gangsawref25_Bounds.l0 : Nat → Int → Int → List (S36) → Int → List (List Int) → Int → Option ((List (List Int)))
  | 0, _, _, _, _, _, _ => none
  | k + 1, x0, x1, x2, x3, x9, x10 => if x10 ≤ x0 then (if 0 ≤ (wrap64 (x1 + 1)) then (if (wrap64 (x1 + 1) : Int).toNat ≤ 35184372088832 then (if x9.length < 5864062014805 then (gangsawref25_Bounds.l1 k x0 x1 x2 x3 (x9 ++ [(List.replicate (wrap64 (x1 + 1) : Int).toNat 0)]) x10 1) else (none)) else (none)) else (none)) else (some x9)
def gangsawref25_Bounds.l1 : Nat → Int → Int → List (S36) → Int → List (List Int) → Int → Int → Option ((List (List Int)))
  | 0, _, _, _, _, _, _, _ => none
  | k + 1, x0, x1, x2, x3, x9, x10, x11 => if x11 ≤ x1 then (gangsawref25_Bounds.j2 k x0 x1 x2 x3 x9 x10 x11 (decide (x10 > 0))) else (gangsawref25_Bounds.j2 k x0 x1 x2 x3 x9 x10 x11 false)
def gangsawref25_Bounds.j2 : Nat → Int → Int → List (S36) → Int → List (List Int) → Int → Int → Bool → Option ((List (List Int)))
  | 0, _, _, _, _, _, _, _, _ => none
  | k + 1, x0, x1, x2, x3, x9, x10, x11, x33 => if x33 = true then ((gangsawref25_item.f k x2 x10 x11).bind fun t181 => (gangsawref25_Bounds.l2 k x0 x1 x2 x3 x9 x10 x11 t181 1)) else (gangsawref25_Bounds.l0 k x0 x1 x2 x3 x9 (wrap64 (x10 + 1)))
def gangsawref25_Bounds.l2 : Nat → Int → Int → List (S36) → Int → List (List Int) → Int → Int → Int → Int → Option ((List (List Int)))
  | 0, _, _, _, _, _, _, _, _, _ => none
  | k + 1, x0, x1, x2, x3, x9, x10, x11, x12, x13 => if (wrap64 (x13 + x3)) < x10 then (if 0 ≤ x13 then (if x13 < (x9.length : Int) then (if 0 ≤ x11 then (if x11 < ((rd_L5 x9 x13).length : Int) then (if 0 ≤ (wrap64 ((wrap64 (x10 - x13)) - x3)) then (if (wrap64 ((wrap64 (x10 - x13)) - x3)) < (x9.length : Int) then (if x11 < ((rd_L5 x9 (wrap64 ((wrap64 (x10 - x13)) - x3))).length : Int) then (gangsawref25_Bounds.l2 k x0 x1 x2 x3 x9 x10 x11 (mx x12 (wrap64 ((rd (rd_L5 x9 x13) x11) + (rd (rd_L5 x9 (wrap64 ((wrap64 (x10 - x13)) - x3))) x11)))) (wrap64 (x13 + 1))) else (none)) else (none)) else (none)) else (none)) else (none)) else (none)) else (none)) else (gangsawref25_Bounds.l3 k x0 x1 x2 x3 x9 x10 x11 x12 1)
def gangsawref25_Bounds.l3 : Nat → Int → Int → List (S36) → Int → List (List Int) → Int → Int → Int → Int → Option ((List (List Int)))
  | 0, _, _, _, _, _, _, _, _, _ => none
  | k + 1, x0, x1, x2, x3, x9, x10, x11, x12, x14 => if (wrap64 (x14 + x3)) < x11 then (if 0 ≤ x10 then (if x10 < (x9.length : Int) then (if 0 ≤ x14 then (if x14 < ((rd_L5 x9 x10).length : Int) then (if 0 ≤ (wrap64 ((wrap64 (x11 - x14)) - x3)) then (if (wrap64 ((wrap64 (x11 - x14)) - x3)) < ((rd_L5 x9 x10).length : Int) then (gangsawref25_Bounds.l3 k x0 x1 x2 x3 x9 x10 x11 (mx x12 (wrap64 ((rd (rd_L5 x9 x10) x14) + (rd (rd_L5 x9 x10) (wrap64 ((wrap64 (x11 - x14)) - x3)))))) (wrap64 (x14 + 1))) else (none)) else (none)) else (none)) else (none)) else (none)) else (none)) else (if 0 ≤ x10 then (if x10 < (x9.length : Int) then (if 0 ≤ x11 then (if x11 < ((rd_L5 x9 x10).length : Int) then (gangsawref25_Bounds.l1 k x0 x1 x2 x3 (x9.set (x10 : Int).toNat ((rd_L5 x9 x10).set (x11 : Int).toNat x12)) x10 (wrap64 (x11 + 1))) else (none)) else (none)) else (none)) else (none))
end
def gangsawref25_Bounds.f (k : Nat) (a0 : Int) (a1 : Int) (l2 : List (S36)) (a3 : Int) : Option ((List (List Int))) := gangsawref25_Bounds.l0 k a0 a1 l2 a3 (([] : List (List Int))) 0
theorem gangsawref25_Bounds.mono_l : ∀ k, (∀ y0 y1 y2 y3 y4 y5, LeO (gangsawref25_Bounds.l0 k y0 y1 y2 y3 y4 y5) (gangsawref25_Bounds.l0 (k + 1) y0 y1 y2 y3 y4 y5)) ∧ (∀ y0 y1 y2 y3 y4 y5 y6, LeO (gangsawref25_Bounds.l1 k y0 y1 y2 y3 y4 y5 y6) (gangsawref25_Bounds.l1 (k + 1) y0 y1 y2 y3 y4 y5 y6)) ∧ (∀ y0 y1 y2 y3 y4 y5 y6 y7, LeO (gangsawref25_Bounds.j2 k y0 y1 y2 y3 y4 y5 y6 y7) (gangsawref25_Bounds.j2 (k + 1) y0 y1 y2 y3 y4 y5 y6 y7)) ∧ (∀ y0 y1 y2 y3 y4 y5 y6 y7 y8, LeO (gangsawref25_Bounds.l2 k y0 y1 y2 y3 y4 y5 y6 y7 y8) (gangsawref25_Bounds.l2 (k + 1) y0 y1 y2 y3 y4 y5 y6 y7 y8)) ∧ (∀ y0 y1 y2 y3 y4 y5 y6 y7 y8, LeO (gangsawref25_Bounds.l3 k y0 y1 y2 y3 y4 y5 y6 y7 y8) (gangsawref25_Bounds.l3 (k + 1) y0 y1 y2 y3 y4 y5 y6 y7 y8))
  | 0 => ⟨fun _ _ _ _ _ _ r h => by simp [gangsawref25_Bounds.l0] at h, fun _ _ _ _ _ _ _ r h => by simp [gangsawref25_Bounds.l1] at h, fun _ _ _ _ _ _ _ _ r h => by simp [gangsawref25_Bounds.j2] at h, fun _ _ _ _ _ _ _ _ _ r h => by simp [gangsawref25_Bounds.l2] at h, fun _ _ _ _ _ _ _ _ _ r h => by simp [gangsawref25_Bounds.l3] at h⟩
  | k + 1 => by
    obtain ⟨ih0, ih1, ih2, ih3, ih4⟩ := gangsawref25_Bounds.mono_l k
    refine ⟨?_, ?_, ?_, ?_, ?_⟩
    · intro y0 y1 y2 y3 y4 y5
      unfold gangsawref25_Bounds.l0
      repeat' first
      | (with_reducible exact ih0 _ _ _ _ _ _)
      | (with_reducible exact ih1 _ _ _ _ _ _ _)
      | (with_reducible exact ih2 _ _ _ _ _ _ _ _)
      | (with_reducible exact ih3 _ _ _ _ _ _ _ _ _)
      | (with_reducible exact ih4 _ _ _ _ _ _ _ _ _)
      | (with_reducible exact gangsawref25_item.mono _ _ _ _)
      | (with_reducible exact LeO.refl _)
      | (with_reducible exact LeO.none _)
      | (with_reducible refine LeO.ite ?_ ?_)
      | (with_reducible refine LeO.bind ?_ (fun _ => ?_))
      | exact ih0 _ _ _ _ _ _
      | exact ih1 _ _ _ _ _ _ _
      | exact ih2 _ _ _ _ _ _ _ _
      | exact ih3 _ _ _ _ _ _ _ _ _
      | exact ih4 _ _ _ _ _ _ _ _ _
      | exact gangsawref25_item.mono _ _ _ _
      | exact LeO.none _
      | refine LeO.ite ?_ ?_
      | refine LeO.bind ?_ (fun _ => ?_)
    · intro y0 y1 y2 y3 y4 y5 y6
      unfold gangsawref25_Bounds.l1
      repeat' first
      | (with_reducible exact ih0 _ _ _ _ _ _)
      | (with_reducible exact ih1 _ _ _ _ _ _ _)
      | (with_reducible exact ih2 _ _ _ _ _ _ _ _)
      | (with_reducible exact ih3 _ _ _ _ _ _ _ _ _)
      | (with_reducible exact ih4 _ _ _ _ _ _ _ _ _)
      | (with_reducible exact gangsawref25_item.mono _ _ _ _)
      | (with_reducible exact LeO.refl _)
      | (with_reducible exact LeO.none _)
      | (with_reducible refine LeO.ite ?_ ?_)
      | (with_reducible refine LeO.bind ?_ (fun _ => ?_))
      | exact ih0 _ _ _ _ _ _
      | exact ih1 _ _ _ _ _ _ _
      | exact ih2 _ _ _ _ _ _ _ _
      | exact ih3 _ _ _ _ _ _ _ _ _
      | exact ih4 _ _ _ _ _ _ _ _ _
      | exact gangsawref25_item.mono _ _ _ _
      | exact LeO.none _
      | refine LeO.ite ?_ ?_
      | refine LeO.bind ?_ (fun _ => ?_)
    · intro y0 y1 y2 y3 y4 y5 y6 y7
      unfold gangsawref25_Bounds.j2
      repeat' first
      | (with_reducible exact ih0 _ _ _ _ _ _)
      | (with_reducible exact ih1 _ _ _ _ _ _ _)
      | (with_reducible exact ih2 _ _ _ _ _ _ _ _)
      | (with_reducible exact ih3 _ _ _ _ _ _ _ _ _)
      | (with_reducible exact ih4 _ _ _ _ _ _ _ _ _)
      | (with_reducible exact gangsawref25_item.mono _ _ _ _)
      | (with_reducible exact LeO.refl _)
      | (with_reducible exact LeO.none _)
      | (with_reducible refine LeO.ite ?_ ?_)
      | (with_reducible refine LeO.bind ?_ (fun _ => ?_))
      | exact ih0 _ _ _ _ _ _
      | exact ih1 _ _ _ _ _ _ _
      | exact ih2 _ _ _ _ _ _ _ _
      | exact ih3 _ _ _ _ _ _ _ _ _
      | exact ih4 _ _ _ _ _ _ _ _ _
      | exact gangsawref25_item.mono _ _ _ _
      | exact LeO.none _
      | refine LeO.ite ?_ ?_
      | refine LeO.bind ?_ (fun _ => ?_)
    · intro y0 y1 y2 y3 y4 y5 y6 y7 y8
      unfold gangsawref25_Bounds.l2
      repeat' first
      | (with_reducible exact ih0 _ _ _ _ _ _)
      | (with_reducible exact ih1 _ _ _ _ _ _ _)
      | (with_reducible exact ih2 _ _ _ _ _ _ _ _)
      | (with_reducible exact ih3 _ _ _ _ _ _ _ _ _)
      | (with_reducible exact ih4 _ _ _ _ _ _ _ _ _)
      | (with_reducible exact gangsawref25_item.mono _ _ _ _)
      | (with_reducible exact LeO.refl _)
      | (with_reducible exact LeO.none _)
      | (with_reducible refine LeO.ite ?_ ?_)
      | (with_reducible refine LeO.bind ?_ (fun _ => ?_))
      | exact ih0 _ _ _ _ _ _
      | exact ih1 _ _ _ _ _ _ _
      | exact ih2 _ _ _ _ _ _ _ _
      | exact ih3 _ _ _ _ _ _ _ _ _
      | exact ih4 _ _ _ _ _ _ _ _ _
      | exact gangsawref25_item.mono _ _ _ _
      | exact LeO.none _
      | refine LeO.ite ?_ ?_
      | refine LeO.bind ?_ (fun _ => ?_)
    · intro y0 y1 y2 y3 y4 y5 y6 y7 y8
      unfold gangsawref25_Bounds.l3
      repeat' first
      | (with_reducible exact ih0 _ _ _ _ _ _)
      | (with_reducible exact ih1 _ _ _ _ _ _ _)
      | (with_reducible exact ih2 _ _ _ _ _ _ _ _)
      | (with_reducible exact ih3 _ _ _ _ _ _ _ _ _)
      | (with_reducible exact ih4 _ _ _ _ _ _ _ _ _)
      | (with_reducible exact gangsawref25_item.mono _ _ _ _)
      | (with_reducible exact LeO.refl _)
      | (with_reducible exact LeO.none _)
      | (with_reducible refine LeO.ite ?_ ?_)
      | (with_reducible refine LeO.bind ?_ (fun _ => ?_))
      | exact ih0 _ _ _ _ _ _
      | exact ih1 _ _ _ _ _ _ _
      | exact ih2 _ _ _ _ _ _ _ _
      | exact ih3 _ _ _ _ _ _ _ _ _
      | exact ih4 _ _ _ _ _ _ _ _ _
      | exact gangsawref25_item.mono _ _ _ _
      | exact LeO.none _
      | refine LeO.ite ?_ ?_
      | refine LeO.bind ?_ (fun _ => ?_)
theorem gangsawref25_Bounds.mono : ∀ a0 a1 a2 a3 k, LeO (gangsawref25_Bounds.f k a0 a1 a2 a3) (gangsawref25_Bounds.f (k + 1) a0 a1 a2 a3) := by
  intro a0 a1 a2 a3 k
  obtain ⟨ih0, ih1, ih2, ih3, ih4⟩ := gangsawref25_Bounds.mono_l k
  unfold gangsawref25_Bounds.f
  repeat' first
      | (with_reducible exact ih0 _ _ _ _ _ _)
      | (with_reducible exact ih1 _ _ _ _ _ _ _)
      | (with_reducible exact ih2 _ _ _ _ _ _ _ _)
      | (with_reducible exact ih3 _ _ _ _ _ _ _ _ _)
      | (with_reducible exact ih4 _ _ _ _ _ _ _ _ _)
      | (with_reducible exact gangsawref25_item.mono _ _ _ _)
      | (with_reducible exact LeO.refl _)
      | (with_reducible exact LeO.none _)
      | (with_reducible refine LeO.ite ?_ ?_)
      | (with_reducible refine LeO.bind ?_ (fun _ => ?_))
      | exact ih0 _ _ _ _ _ _
      | exact ih1 _ _ _ _ _ _ _
      | exact ih2 _ _ _ _ _ _ _ _
      | exact ih3 _ _ _ _ _ _ _ _ _
      | exact ih4 _ _ _ _ _ _ _ _ _
      | exact gangsawref25_item.mono _ _ _ _
      | exact LeO.none _
      | refine LeO.ite ?_ ?_
      | refine LeO.bind ?_ (fun _ => ?_)
set_option maxHeartbeats 8000000 in
set_option maxRecDepth 100000 in
theorem gangsawref25_Bounds.calls (k : Nat) (a0 : Int) (a1 : Int) (A2 : Option Addr) (c2 : Nat) (l2 : List (S36)) (a3 : Int) (r : List (List Int)) (w : World) (hr2 : Kd.C k36 w A2 l2.length l2) (hc2 : l2.length ≤ c2) (h : gangsawref25_Bounds.f k a0 a1 l2 a3 = some r) :
    Calls Try.prog 23 #[.int .i64 a0, .int .i64 a1, .slice A2 l2.length c2, .int .i64 a3] w fun e w' => ∃ v0_ : Value, e = .returned (v0_) ∧ Kd.S (Kd.slice 2 (Kd.int .i64)) 54 w' w.heap.size (fun _ => True) v0_ r ∧ Below w.heap.size w w' := by
  have HR2 := Aside0.mk hr2
  have HC2 := Aside0.mk hc2
  clear hr2 hc2
  have HB := Aside0.mk (Below.refl w.heap.size w)
  have H : (gangsawref25_Bounds.l0 k a0 a1 l2 a3 (([] : List (List Int))) 0) = some r := h
  clear h
  obtain ⟨y172, hy172⟩ : ∃ y_ : List (List Int), y_ = (([] : List (List Int))) := ⟨_, rfl⟩
  replace H : (gangsawref25_Bounds.l0 k a0 a1 l2 a3 y172 0) = some r := by first | (rw [hy172]; with_reducible exact H) | (have H2_ := (Option.bind_some _ _).symm.trans H; rw [hy172]; with_reducible exact H2_) | (have H2_ := (Option.bind_some _ _).symm.trans H; with_reducible exact H2_) | with_reducible exact H | (rw [hy172]; exact H) | exact H
  have Ny172 := Aside0.mk hy172
  clear hy172
  have H' := Aside0.mk H
  clear H
  go_enter Try.func23, Try.ntmps23
  go_wp2_with (first | ((with_reducible refine gate_dst (N := 15) rfl ?_); refine Kd.S_lit (Kd.slice 2 (Kd.int .i64)) _ 54 ?hg (N := 15) ?hd (xs := ([] : List (List Int))) (inner := []) (ok := fun _ => True) (okp := fun _ => True) ?hr ?hp (fun _ hk => hk) trivial (Below.refl _ _) (Nat.le_refl _) (by simp) ?_; (case hd => rfl); (case hg => rfl); (case hr => first | (go_simp; done) | (go_simp; rfl)); (case hp => exact (Reps.none _ _)); intro v173 w5 ho6 hb hg_ hnew_; clear hg_ hnew_; (first | rw [← Ny172.out] at ho6 | (simp only [Int.reduceToNat] at ho6; rw [← Ny172.out] at ho6)); have n0_ := Aside0.mk (Kd.S_lower ho6 (below_size (by repeat (first | (with_reducible first | exact HB.out | apply below_alloc | apply pw_below_drewN | apply below_drew1) | exact HB.out)))); have n1_ := Aside0.mk (below_step (by repeat (first | (with_reducible first | exact HB.out | apply below_alloc | apply pw_below_drewN | apply below_drew1) | exact HB.out)) hb); clear HB; have HO174 := n0_; have HB := n1_; clear n0_ n1_; clear hb ho6))
  repeat (go_quiet (first | ((with_reducible refine gate_dst (N := 15) rfl ?_); refine Kd.S_lit (Kd.slice 2 (Kd.int .i64)) _ 54 ?hg (N := 15) ?hd (xs := ([] : List (List Int))) (inner := []) (ok := fun _ => True) (okp := fun _ => True) ?hr ?hp (fun _ hk => hk) trivial (Below.refl _ _) (Nat.le_refl _) (by simp) ?_; (case hd => rfl); (case hg => rfl); (case hr => first | (go_simp; done) | (go_simp; rfl)); (case hp => exact (Reps.none _ _)); intro v173 w5 ho6 hb hg_ hnew_; clear hg_ hnew_; (first | rw [← Ny172.out] at ho6 | (simp only [Int.reduceToNat] at ho6; rw [← Ny172.out] at ho6)); have n0_ := Aside0.mk (Kd.S_lower ho6 (below_size (by repeat (first | (with_reducible first | exact HB.out | apply below_alloc | apply pw_below_drewN | apply below_drew1) | exact HB.out)))); have n1_ := Aside0.mk (below_step (by repeat (first | (with_reducible first | exact HB.out | apply below_alloc | apply pw_below_drewN | apply below_drew1) | exact HB.out)) hb); clear HB; have HO174 := n0_; have HB := n1_; clear n0_ n1_; clear hb ho6)); try go_wp2_with (first | ((with_reducible refine gate_dst (N := 15) rfl ?_); refine Kd.S_lit (Kd.slice 2 (Kd.int .i64)) _ 54 ?hg (N := 15) ?hd (xs := ([] : List (List Int))) (inner := []) (ok := fun _ => True) (okp := fun _ => True) ?hr ?hp (fun _ hk => hk) trivial (Below.refl _ _) (Nat.le_refl _) (by simp) ?_; (case hd => rfl); (case hg => rfl); (case hr => first | (go_simp; done) | (go_simp; rfl)); (case hp => exact (Reps.none _ _)); intro v173 w5 ho6 hb hg_ hnew_; clear hg_ hnew_; (first | rw [← Ny172.out] at ho6 | (simp only [Int.reduceToNat] at ho6; rw [← Ny172.out] at ho6)); have n0_ := Aside0.mk (Kd.S_lower ho6 (below_size (by repeat (first | (with_reducible first | exact HB.out | apply below_alloc | apply pw_below_drewN | apply below_drew1) | exact HB.out)))); have n1_ := Aside0.mk (below_step (by repeat (first | (with_reducible first | exact HB.out | apply below_alloc | apply pw_below_drewN | apply below_drew1) | exact HB.out)) hb); clear HB; have HO174 := n0_; have HB := n1_; clear n0_ n1_; clear hb ho6)))
  go_loopg [9, 10] k (fun kq v9 v10 w' => ∃ (x9_1 : List (List Int)) (x10_1 : Int), v10 = .int .i64 x10_1 ∧ Aside0 (gangsawref25_Bounds.l0 kq a0 a1 l2 a3 x9_1 x10_1 = some r) ∧ Aside0 (kq ≤ k) ∧ Aside0 (Kd.S (Kd.slice 2 (Kd.int .i64)) 54 w' w.heap.size (fun _ => True) v9 x9_1) ∧ Aside0 (Below w.heap.size w w'))
  case atStart => exact ⟨(y172), (0), (by first | rfl | (simp; done) | (simp [*]; done)), H', ⟨Nat.le_refl _⟩, ⟨by (with_reducible repeat (first | apply Kd.S_alloc | apply Kd.S_drewN | apply Kd.S_drew)); exact HO174.out⟩, ⟨by repeat (first | (with_reducible first | exact HB.out | apply below_alloc | apply pw_below_drewN | apply below_drew1) | exact HB.out)⟩⟩
  case round =>
    clear H'
    try clear c2
    try clear p2
    obtain ⟨x9_1, x10_1, rfl, HA, HK1, HO_9, HB⟩ := hrel
    cases gk with
    | zero => exact absurd HA.out (by simp [gangsawref25_Bounds.l0])
    | succ k1 =>
      have H := HA.out
      clear HA
      simp only [gangsawref25_Bounds.l0] at H
      by_cases c7 : x10_1 ≤ a0
      · rw [if_pos c7] at H
        have c7b0 : decide (x10_1 ≤ a0) = true := decide_eq_true c7
        clear c7
        obtain ⟨ji8, hji8⟩ : ∃ j_ : Int, (wrap64 (a1 + 1)) = j_ := ⟨_, rfl⟩
        replace H : (if 0 ≤ (ji8) then (if (ji8 : Int).toNat ≤ 35184372088832 then (if x9_1.length < 5864062014805 then (gangsawref25_Bounds.l1 k1 a0 a1 l2 a3 (x9_1 ++ [(List.replicate (ji8 : Int).toNat 0)]) x10_1 1) else (none)) else (none)) else (none)) = some r := by first | (rw [hji8] at H; exact H) | (simp only [hji8] at H ⊢; exact H)
        have hji8w : (IntKind.i64.wrap (a1 + 1)) = ji8 := (i64_w _).trans hji8
        by_cases c9 : 0 ≤ (ji8)
        · rw [if_pos c9] at H
          have c9b0 := eq_true c9
          have c9b1 : decide (0 ≤ (ji8)) = true := decide_eq_true c9
          clear c9
          by_cases c10 : (ji8 : Int).toNat ≤ 35184372088832
          · rw [if_pos c10] at H
            have c10b0 := eq_true c10
            have c10b1 : decide ((ji8 : Int).toNat ≤ 35184372088832) = true := decide_eq_true c10
            clear c10
            obtain ⟨y175, hy175⟩ : ∃ y_ : List Int, y_ = (List.replicate (ji8 : Int).toNat 0) := ⟨_, rfl⟩
            replace H : (if x9_1.length < 5864062014805 then (gangsawref25_Bounds.l1 k1 a0 a1 l2 a3 (x9_1 ++ [y175]) x10_1 1) else (none)) = some r := by first | (rw [hy175]; with_reducible exact H) | (have H2_ := (Option.bind_some _ _).symm.trans H; rw [hy175]; with_reducible exact H2_) | (have H2_ := (Option.bind_some _ _).symm.trans H; with_reducible exact H2_) | with_reducible exact H | (rw [hy175]; exact H) | exact H
            have Ny175 := Aside0.mk hy175
            clear hy175
            by_cases c11 : x9_1.length < 5864062014805
            · rw [if_pos c11] at H
              have LMc11 := Aside0.mk c11
              clear c11
              obtain ⟨y178, hy178⟩ : ∃ y_ : List (List Int), y_ = (x9_1 ++ [y175]) := ⟨_, rfl⟩
              replace H : (gangsawref25_Bounds.l1 k1 a0 a1 l2 a3 y178 x10_1 1) = some r := by first | (rw [hy178]; with_reducible exact H) | (have H2_ := (Option.bind_some _ _).symm.trans H; rw [hy178]; with_reducible exact H2_) | (have H2_ := (Option.bind_some _ _).symm.trans H; with_reducible exact H2_) | with_reducible exact H | (rw [hy178]; exact H) | exact H
              have Ny178 := Aside0.mk hy178
              clear hy178
              have H' := Aside0.mk H
              clear H
              go_wp2_with (first | ((with_reducible refine gate_dst (N := 24) rfl ?_); refine Kd.R_make (Kd.int .i64) _ 2 rfl (N := 24) rfl 54 _ _ rfl ji8 rfl rfl Try.underlying54 (.int .i64 0) 8 info2 rfl (by decide) (by omega) 0 (ok := fun _ => True) (okp := fun _ => True) rfl (fun _ hk => hk) trivial (of_decide_eq_true (by first | (with_reducible assumption) | assumption)) (Nat.le_trans (Nat.mul_le_mul_right _ (of_decide_eq_true (by first | (with_reducible assumption) | assumption) : ji8.toNat ≤ 35184372088832)) (by omega)) (Below.refl _ _) (Nat.le_refl _) ?_; intro v176 w12 ho13 hb hg_ hnew_; clear hg_ hnew_; (first | rw [← Ny175.out] at ho13 | (simp only [Int.reduceToNat] at ho13; rw [← Ny175.out] at ho13)); have n0_ := Aside0.mk (Kd.S_elder' (by (with_reducible repeat (first | apply Kd.S_alloc | apply Kd.S_drewN | apply Kd.S_drew)); exact HO_9.out) (Kd.R_base ho13) hb); have n1_ := Aside0.mk (Kd.R_lower ho13 (below_size (by repeat (first | (with_reducible first | exact HB.out | apply below_alloc | apply pw_below_drewN | apply below_drew1) | exact HB.out)))); have n2_ := Aside0.mk (below_step (by repeat (first | (with_reducible first | exact HB.out | apply below_alloc | apply pw_below_drewN | apply below_drew1) | exact HB.out)) hb); clear HO_9; clear HB; have HO_9 := n0_; have HO177 := n1_; have HB := n2_; clear n0_ n1_ n2_; clear hb ho13; obtain ⟨Ao15, co15, eo15⟩ := Kd.R_slice HO177.out; subst eo15) | ((with_reducible refine gate_builtin (b := .append) (xs := #[.tmp 21, .tmp 25]) rfl ?_); at_builtin; refine Kd.S_append (Kd.slice 2 (Kd.int .i64)) (w0 := w) w.heap.size rfl (.tmp 21) (.tmp 25) 40 54 (.slice none 0 0) 24 rfl Try.underlying40 info54 rfl (by decide) (by omega) u9 x9_1 y175 [.slice Ao15 y175.length co15] (fun _ => True) (fun k_ => some k_ = (.slice Ao15 y175.length co15 : Value).ownBlock) rfl rfl ?aP (fun k_ hk_ => ((Kd.R_mono (ok' := fun k_ => ((fun _ => True)) k_ ∧ some k_ ≠ (u9 : Value).ownBlock) (Kd.R_apart' (HO177.out) (Kd.S_typed HO_9.out) (by decide)) (fun k_ hk => ⟨trivial, hk.2⟩))).1 k_ hk_.symm) ?aF ?aO ?aB ?aS ?aL ?_; (case aP => exact Kd.M_row (Kd.R_mono (Kd.R_tight rfl (Kd.R_mono (ok' := fun k_ => ((fun _ => True)) k_ ∧ some k_ ≠ (u9 : Value).ownBlock) (Kd.R_apart' (HO177.out) (Kd.S_typed HO_9.out) (by decide)) (fun k_ hk => ⟨trivial, hk.2⟩))) (fun _ h_ => h_))); (case aB => exact (by repeat (first | (with_reducible first | exact HB.out | apply below_alloc | apply pw_below_drewN | apply below_drew1) | exact HB.out))); (case aF => exact (fun _ _ => trivial)); (case aO => exact (by (with_reducible repeat (first | apply Kd.S_alloc | apply Kd.S_drewN | apply Kd.S_drew)); exact Kd.S_mono HO_9.out (fun k_ hk => ⟨trivial, fun e_ => hk.2 e_⟩))); (case aS => exact (below_size (by repeat (first | (with_reducible first | exact HB.out | apply below_alloc | apply pw_below_drewN | apply below_drew1) | exact HB.out)))); (case aL => have := LMc11.out; omega); intro v179 w14 ho hb hg hat; rw [← Ny178.out] at ho; have n0_ := Aside0.mk (hb); have n1_ := Aside0.mk (ho); clear HB; clear HO_9; clear HO177; have HB := n0_; have HO180 := n1_; clear n0_ n1_; clear ho hb hg hat))
              repeat (go_quiet (first | ((with_reducible refine gate_dst (N := 24) rfl ?_); refine Kd.R_make (Kd.int .i64) _ 2 rfl (N := 24) rfl 54 _ _ rfl ji8 rfl rfl Try.underlying54 (.int .i64 0) 8 info2 rfl (by decide) (by omega) 0 (ok := fun _ => True) (okp := fun _ => True) rfl (fun _ hk => hk) trivial (of_decide_eq_true (by first | (with_reducible assumption) | assumption)) (Nat.le_trans (Nat.mul_le_mul_right _ (of_decide_eq_true (by first | (with_reducible assumption) | assumption) : ji8.toNat ≤ 35184372088832)) (by omega)) (Below.refl _ _) (Nat.le_refl _) ?_; intro v176 w12 ho13 hb hg_ hnew_; clear hg_ hnew_; (first | rw [← Ny175.out] at ho13 | (simp only [Int.reduceToNat] at ho13; rw [← Ny175.out] at ho13)); have n0_ := Aside0.mk (Kd.S_elder' (by (with_reducible repeat (first | apply Kd.S_alloc | apply Kd.S_drewN | apply Kd.S_drew)); exact HO_9.out) (Kd.R_base ho13) hb); have n1_ := Aside0.mk (Kd.R_lower ho13 (below_size (by repeat (first | (with_reducible first | exact HB.out | apply below_alloc | apply pw_below_drewN | apply below_drew1) | exact HB.out)))); have n2_ := Aside0.mk (below_step (by repeat (first | (with_reducible first | exact HB.out | apply below_alloc | apply pw_below_drewN | apply below_drew1) | exact HB.out)) hb); clear HO_9; clear HB; have HO_9 := n0_; have HO177 := n1_; have HB := n2_; clear n0_ n1_ n2_; clear hb ho13; obtain ⟨Ao15, co15, eo15⟩ := Kd.R_slice HO177.out; subst eo15) | ((with_reducible refine gate_builtin (b := .append) (xs := #[.tmp 21, .tmp 25]) rfl ?_); at_builtin; refine Kd.S_append (Kd.slice 2 (Kd.int .i64)) (w0 := w) w.heap.size rfl (.tmp 21) (.tmp 25) 40 54 (.slice none 0 0) 24 rfl Try.underlying40 info54 rfl (by decide) (by omega) u9 x9_1 y175 [.slice Ao15 y175.length co15] (fun _ => True) (fun k_ => some k_ = (.slice Ao15 y175.length co15 : Value).ownBlock) rfl rfl ?aP (fun k_ hk_ => ((Kd.R_mono (ok' := fun k_ => ((fun _ => True)) k_ ∧ some k_ ≠ (u9 : Value).ownBlock) (Kd.R_apart' (HO177.out) (Kd.S_typed HO_9.out) (by decide)) (fun k_ hk => ⟨trivial, hk.2⟩))).1 k_ hk_.symm) ?aF ?aO ?aB ?aS ?aL ?_; (case aP => exact Kd.M_row (Kd.R_mono (Kd.R_tight rfl (Kd.R_mono (ok' := fun k_ => ((fun _ => True)) k_ ∧ some k_ ≠ (u9 : Value).ownBlock) (Kd.R_apart' (HO177.out) (Kd.S_typed HO_9.out) (by decide)) (fun k_ hk => ⟨trivial, hk.2⟩))) (fun _ h_ => h_))); (case aB => exact (by repeat (first | (with_reducible first | exact HB.out | apply below_alloc | apply pw_below_drewN | apply below_drew1) | exact HB.out))); (case aF => exact (fun _ _ => trivial)); (case aO => exact (by (with_reducible repeat (first | apply Kd.S_alloc | apply Kd.S_drewN | apply Kd.S_drew)); exact Kd.S_mono HO_9.out (fun k_ hk => ⟨trivial, fun e_ => hk.2 e_⟩))); (case aS => exact (below_size (by repeat (first | (with_reducible first | exact HB.out | apply below_alloc | apply pw_below_drewN | apply below_drew1) | exact HB.out)))); (case aL => have := LMc11.out; omega); intro v179 w14 ho hb hg hat; rw [← Ny178.out] at ho; have n0_ := Aside0.mk (hb); have n1_ := Aside0.mk (ho); clear HB; clear HO_9; clear HO177; have HB := n0_; have HO180 := n1_; clear n0_ n1_; clear ho hb hg hat)); try go_wp2_with (first | ((with_reducible refine gate_dst (N := 24) rfl ?_); refine Kd.R_make (Kd.int .i64) _ 2 rfl (N := 24) rfl 54 _ _ rfl ji8 rfl rfl Try.underlying54 (.int .i64 0) 8 info2 rfl (by decide) (by omega) 0 (ok := fun _ => True) (okp := fun _ => True) rfl (fun _ hk => hk) trivial (of_decide_eq_true (by first | (with_reducible assumption) | assumption)) (Nat.le_trans (Nat.mul_le_mul_right _ (of_decide_eq_true (by first | (with_reducible assumption) | assumption) : ji8.toNat ≤ 35184372088832)) (by omega)) (Below.refl _ _) (Nat.le_refl _) ?_; intro v176 w12 ho13 hb hg_ hnew_; clear hg_ hnew_; (first | rw [← Ny175.out] at ho13 | (simp only [Int.reduceToNat] at ho13; rw [← Ny175.out] at ho13)); have n0_ := Aside0.mk (Kd.S_elder' (by (with_reducible repeat (first | apply Kd.S_alloc | apply Kd.S_drewN | apply Kd.S_drew)); exact HO_9.out) (Kd.R_base ho13) hb); have n1_ := Aside0.mk (Kd.R_lower ho13 (below_size (by repeat (first | (with_reducible first | exact HB.out | apply below_alloc | apply pw_below_drewN | apply below_drew1) | exact HB.out)))); have n2_ := Aside0.mk (below_step (by repeat (first | (with_reducible first | exact HB.out | apply below_alloc | apply pw_below_drewN | apply below_drew1) | exact HB.out)) hb); clear HO_9; clear HB; have HO_9 := n0_; have HO177 := n1_; have HB := n2_; clear n0_ n1_ n2_; clear hb ho13; obtain ⟨Ao15, co15, eo15⟩ := Kd.R_slice HO177.out; subst eo15) | ((with_reducible refine gate_builtin (b := .append) (xs := #[.tmp 21, .tmp 25]) rfl ?_); at_builtin; refine Kd.S_append (Kd.slice 2 (Kd.int .i64)) (w0 := w) w.heap.size rfl (.tmp 21) (.tmp 25) 40 54 (.slice none 0 0) 24 rfl Try.underlying40 info54 rfl (by decide) (by omega) u9 x9_1 y175 [.slice Ao15 y175.length co15] (fun _ => True) (fun k_ => some k_ = (.slice Ao15 y175.length co15 : Value).ownBlock) rfl rfl ?aP (fun k_ hk_ => ((Kd.R_mono (ok' := fun k_ => ((fun _ => True)) k_ ∧ some k_ ≠ (u9 : Value).ownBlock) (Kd.R_apart' (HO177.out) (Kd.S_typed HO_9.out) (by decide)) (fun k_ hk => ⟨trivial, hk.2⟩))).1 k_ hk_.symm) ?aF ?aO ?aB ?aS ?aL ?_; (case aP => exact Kd.M_row (Kd.R_mono (Kd.R_tight rfl (Kd.R_mono (ok' := fun k_ => ((fun _ => True)) k_ ∧ some k_ ≠ (u9 : Value).ownBlock) (Kd.R_apart' (HO177.out) (Kd.S_typed HO_9.out) (by decide)) (fun k_ hk => ⟨trivial, hk.2⟩))) (fun _ h_ => h_))); (case aB => exact (by repeat (first | (with_reducible first | exact HB.out | apply below_alloc | apply pw_below_drewN | apply below_drew1) | exact HB.out))); (case aF => exact (fun _ _ => trivial)); (case aO => exact (by (with_reducible repeat (first | apply Kd.S_alloc | apply Kd.S_drewN | apply Kd.S_drew)); exact Kd.S_mono HO_9.out (fun k_ hk => ⟨trivial, fun e_ => hk.2 e_⟩))); (case aS => exact (below_size (by repeat (first | (with_reducible first | exact HB.out | apply below_alloc | apply pw_below_drewN | apply below_drew1) | exact HB.out)))); (case aL => have := LMc11.out; omega); intro v179 w14 ho hb hg hat; rw [← Ny178.out] at ho; have n0_ := Aside0.mk (hb); have n1_ := Aside0.mk (ho); clear HB; clear HO_9; clear HO177; have HB := n0_; have HO180 := n1_; clear n0_ n1_; clear ho hb hg hat)))
              go_loopg [11] k1 (fun kq v11 w' => ∃ (x9_2 : List (List Int)) (x11_2 : Int), v11 = .int .i64 x11_2 ∧ Aside0 (gangsawref25_Bounds.l1 kq a0 a1 l2 a3 x9_2 x10_1 x11_2 = some r) ∧ Aside0 (kq ≤ k1) ∧ Aside0 (Kd.S (Kd.slice 2 (Kd.int .i64)) 54 w' w.heap.size (fun _ => True) v179 x9_2) ∧ Aside0 (Below w.heap.size w w'))
              case atStart => exact ⟨(y178), (1), (by first | rfl | (simp; done) | (simp [*]; done)), H', ⟨Nat.le_refl _⟩, ⟨by (with_reducible repeat (first | apply Kd.S_alloc | apply Kd.S_drewN | apply Kd.S_drew)); exact HO180.out⟩, ⟨by repeat (first | (with_reducible first | exact HB.out | apply below_alloc | apply pw_below_drewN | apply below_drew1) | exact HB.out)⟩⟩
              case round =>
                clear H'
                try clear c1
                try clear c2
                try clear p2
                try clear p6
                try clear c7
                try clear c7b0
                try clear c9
                try clear c9b0
                try clear c9b1
                try clear c10
                try clear c10b0
                try clear c10b1
                try clear c11
                try clear p2
                obtain ⟨x9_2, x11_2, rfl, HA, HK2, HO_9, HB⟩ := hrel
                cases gk with
                | zero => exact absurd HA.out (by simp [gangsawref25_Bounds.l1])
                | succ k2 =>
                  have H := HA.out
                  clear HA
                  simp only [gangsawref25_Bounds.l1] at H
                  have HC16 := Aside0.mk H
                  clear H
                  go_upto_region 7 with (fail)
                  repeat (go_quiet (fail); go_upto_region 7 with (fail))
                  go_cut [33] (fun v33 wc => ∃ (kq : Nat) (x33_15 : Bool), v33 = .bool x33_15 ∧ Aside0 (gangsawref25_Bounds.j2 kq a0 a1 l2 a3 x9_2 x10_1 x11_2 x33_15 = some r) ∧ Aside0 (kq ≤ k2) ∧ Aside0 (Kd.S (Kd.slice 2 (Kd.int .i64)) 54 wc w.heap.size (fun _ => True) v179 x9_2) ∧ Aside0 (Below w.heap.size w wc))
                  case first =>
                    have H := HC16.out
                    clear HC16
                    by_cases c17 : x11_2 ≤ a1
                    · rw [if_pos c17] at H
                      have c17b0 : decide (x11_2 ≤ a1) = true := decide_eq_true c17
                      clear c17
                      (first | rw [c17b0] | (simp only [i64_w, i32_w]; rw [c17b0]) | skip)
                      have H' := Aside0.mk H
                      clear H
                      go_wp2
                      repeat (go_quiet (fail); try go_wp2)
                      go_meet
                      case rel => exact ⟨_, (decide (x10_1 > 0)), (by first | rfl | (simp; done) | (simp [*]; done)), H', ⟨by have := HK1.out; have := HK2.out; first | omega | exact Nat.le_refl _⟩, ⟨by (with_reducible repeat (first | apply Kd.S_alloc | apply Kd.S_drewN | apply Kd.S_drew)); exact HO_9.out⟩, ⟨by repeat (first | (with_reducible first | exact HB.out | apply below_alloc | apply pw_below_drewN | apply below_drew1) | exact HB.out)⟩⟩
                    · rw [if_neg c17] at H
                      have c17b0 : decide (x11_2 ≤ a1) = false := decide_eq_false c17
                      clear c17
                      (first | rw [c17b0] | (simp only [i64_w, i32_w]; rw [c17b0]) | skip)
                      have H' := Aside0.mk H
                      clear H
                      go_wp2
                      repeat (go_quiet (fail); try go_wp2)
                      go_meet
                      case rel => exact ⟨_, (false), (by first | rfl | (simp; done) | (simp [*]; done)), H', ⟨by have := HK1.out; have := HK2.out; first | omega | exact Nat.le_refl _⟩, ⟨by (with_reducible repeat (first | apply Kd.S_alloc | apply Kd.S_drewN | apply Kd.S_drew)); exact HO_9.out⟩, ⟨by repeat (first | (with_reducible first | exact HB.out | apply below_alloc | apply pw_below_drewN | apply below_drew1) | exact HB.out)⟩⟩
                  case rest =>
                    clear HC16
                    try clear c1
                    try clear c2
                    try clear p2
                    try clear p6
                    try clear c7
                    try clear c7b0
                    try clear c9
                    try clear c9b0
                    try clear c9b1
                    try clear c10
                    try clear c10b0
                    try clear c10b1
                    try clear c11
                    try clear c17
                    try clear c17b0
                    try clear p2
                    try clear p6
                    obtain ⟨kq, x33_15, rfl, HA, HJ15, HO_9, HB⟩ := hcut
                    cases kq with
                    | zero => exact absurd HA.out (by simp [gangsawref25_Bounds.j2])
                    | succ kj15 =>
                      have H := HA.out
                      clear HA
                      simp only [gangsawref25_Bounds.j2] at H
                      by_cases c18 : x33_15 = true
                      · subst c18
                        have H1 : ((gangsawref25_item.f kj15 l2 x10_1 x11_2).bind fun t181 => (gangsawref25_Bounds.l2 kj15 a0 a1 l2 a3 x9_2 x10_1 x11_2 t181 1)) = some r := by rw [if_pos rfl] at H; exact H
                        clear H
                        have H := H1
                        clear H1
                        replace H := Option.bind_eq_some_iff.mp H
                        obtain ⟨t181, A190, H⟩ := H
                        replace H : (gangsawref25_Bounds.l2 kj15 a0 a1 l2 a3 x9_2 x10_1 x11_2 t181 1) = some r := H
                        have A19 := Aside0.mk A190
                        clear A190
                        have H' := Aside0.mk H
                        clear H
                        go_wp2_with (first | (go_at_call 37; (with_reducible refine (gangsawref25_item.calls kj15 _ _ l2 x10_1 x11_2 t181 _ ?side1 ?side2 A19.out).mono ?_); (case side1 => repeat (first | exact (Kd.C_below HR2.out HB.out) | (with_reducible refine Kd.C_alloc ?_ _) | (with_reducible refine Kd.C_drewN ?_ _) | (with_reducible refine Kd.C_drew ?_))); (case side2 => exact HC2.out); rintro e w20 ⟨rfl, hb⟩; have n0_ := Aside0.mk (Kd.S_below (by (with_reducible repeat (first | apply Kd.S_alloc | apply Kd.S_drewN | apply Kd.S_drew)); exact HO_9.out) hb); have n1_ := Aside0.mk (below_step (by repeat (first | (with_reducible first | exact HB.out | apply below_alloc | apply pw_below_drewN | apply below_drew1) | exact HB.out)) hb); clear HO_9; clear HB; have HO_9 := n0_; have HB := n1_; clear n0_ n1_; (try clear hb); (try clear hb2); (try clear hk); (try clear hi)))
                        repeat (go_quiet (first | (go_at_call 37; (with_reducible refine (gangsawref25_item.calls kj15 _ _ l2 x10_1 x11_2 t181 _ ?side1 ?side2 A19.out).mono ?_); (case side1 => repeat (first | exact (Kd.C_below HR2.out HB.out) | (with_reducible refine Kd.C_alloc ?_ _) | (with_reducible refine Kd.C_drewN ?_ _) | (with_reducible refine Kd.C_drew ?_))); (case side2 => exact HC2.out); rintro e w20 ⟨rfl, hb⟩; have n0_ := Aside0.mk (Kd.S_below (by (with_reducible repeat (first | apply Kd.S_alloc | apply Kd.S_drewN | apply Kd.S_drew)); exact HO_9.out) hb); have n1_ := Aside0.mk (below_step (by repeat (first | (with_reducible first | exact HB.out | apply below_alloc | apply pw_below_drewN | apply below_drew1) | exact HB.out)) hb); clear HO_9; clear HB; have HO_9 := n0_; have HB := n1_; clear n0_ n1_; (try clear hb); (try clear hb2); (try clear hk); (try clear hi))); try go_wp2_with (first | (go_at_call 37; (with_reducible refine (gangsawref25_item.calls kj15 _ _ l2 x10_1 x11_2 t181 _ ?side1 ?side2 A19.out).mono ?_); (case side1 => repeat (first | exact (Kd.C_below HR2.out HB.out) | (with_reducible refine Kd.C_alloc ?_ _) | (with_reducible refine Kd.C_drewN ?_ _) | (with_reducible refine Kd.C_drew ?_))); (case side2 => exact HC2.out); rintro e w20 ⟨rfl, hb⟩; have n0_ := Aside0.mk (Kd.S_below (by (with_reducible repeat (first | apply Kd.S_alloc | apply Kd.S_drewN | apply Kd.S_drew)); exact HO_9.out) hb); have n1_ := Aside0.mk (below_step (by repeat (first | (with_reducible first | exact HB.out | apply below_alloc | apply pw_below_drewN | apply below_drew1) | exact HB.out)) hb); clear HO_9; clear HB; have HO_9 := n0_; have HB := n1_; clear n0_ n1_; (try clear hb); (try clear hb2); (try clear hk); (try clear hi))))
                        go_loopg [12, 13] kj15 (fun kq v12 v13 w' => ∃ (x12_4 : Int) (x13_4 : Int), v12 = .int .i64 x12_4 ∧ v13 = .int .i64 x13_4 ∧ Aside0 (gangsawref25_Bounds.l2 kq a0 a1 l2 a3 x9_2 x10_1 x11_2 x12_4 x13_4 = some r) ∧ Aside0 (kq ≤ kj15) ∧ Aside0 (Kd.S (Kd.slice 2 (Kd.int .i64)) 54 w' w.heap.size (fun _ => True) v179 x9_2) ∧ Aside0 (Below w.heap.size w w'))
                        case atStart => exact ⟨(t181), (1), (by first | rfl | (simp; done) | (simp [*]; done)), (by first | rfl | (simp; done) | (simp [*]; done)), H', ⟨Nat.le_refl _⟩, ⟨by (with_reducible repeat (first | apply Kd.S_alloc | apply Kd.S_drewN | apply Kd.S_drew)); exact HO_9.out⟩, ⟨by repeat (first | (with_reducible first | exact HB.out | apply below_alloc | apply pw_below_drewN | apply below_drew1) | exact HB.out)⟩⟩
                        case round =>
                          clear H'
                          try clear c1
                          try clear c2
                          try clear p2
                          try clear p6
                          try clear c7
                          try clear c7b0
                          try clear c9
                          try clear c9b0
                          try clear c9b1
                          try clear c10
                          try clear c10b0
                          try clear c10b1
                          try clear c11
                          try clear c17
                          try clear c17b0
                          try clear c18
                          try clear p2
                          try clear p6
                          obtain ⟨x12_4, x13_4, rfl, rfl, HA, HK4, HO_9, HB⟩ := hrel
                          cases gk with
                          | zero => exact absurd HA.out (by simp [gangsawref25_Bounds.l2])
                          | succ k4 =>
                            have H := HA.out
                            clear HA
                            simp only [gangsawref25_Bounds.l2] at H
                            by_cases c21 : (wrap64 (x13_4 + a3)) < x10_1
                            · rw [if_pos c21] at H
                              have c21b0 : decide ((wrap64 (x13_4 + a3)) < x10_1) = true := decide_eq_true c21
                              clear c21
                              by_cases c22 : 0 ≤ x13_4
                              · rw [if_pos c22] at H
                                have c22b0 : decide (0 ≤ x13_4) = true := decide_eq_true c22
                                clear c22
                                by_cases c23 : x13_4 < (x9_2.length : Int)
                                · rw [if_pos c23] at H
                                  have c23b0 : decide (x13_4 < (x9_2.length : Int)) = true := decide_eq_true c23
                                  clear c23
                                  by_cases c24 : 0 ≤ x11_2
                                  · rw [if_pos c24] at H
                                    have c24b0 : decide (0 ≤ x11_2) = true := decide_eq_true c24
                                    clear c24
                                    by_cases c25 : x11_2 < ((rd_L5 x9_2 x13_4).length : Int)
                                    · rw [if_pos c25] at H
                                      have c25b0 : decide (x11_2 < ((rd_L5 x9_2 x13_4).length : Int)) = true := decide_eq_true c25
                                      clear c25
                                      obtain ⟨ji26, hji26⟩ : ∃ j_ : Int, (wrap64 ((wrap64 (x10_1 - x13_4)) - a3)) = j_ := ⟨_, rfl⟩
                                      replace H : (if 0 ≤ (ji26) then (if (ji26) < (x9_2.length : Int) then (if x11_2 < ((rd_L5 x9_2 (ji26)).length : Int) then (gangsawref25_Bounds.l2 k4 a0 a1 l2 a3 x9_2 x10_1 x11_2 (mx x12_4 (wrap64 ((rd (rd_L5 x9_2 x13_4) x11_2) + (rd (rd_L5 x9_2 (ji26)) x11_2)))) (wrap64 (x13_4 + 1))) else (none)) else (none)) else (none)) = some r := by first | (rw [hji26] at H; exact H) | (simp only [hji26] at H ⊢; exact H)
                                      have hji26w : (IntKind.i64.wrap ((wrap64 (x10_1 - x13_4)) - a3)) = ji26 := (i64_w _).trans hji26
                                      by_cases c27 : 0 ≤ (ji26)
                                      · rw [if_pos c27] at H
                                        have c27b0 : decide (0 ≤ (ji26)) = true := decide_eq_true c27
                                        clear c27
                                        by_cases c28 : (ji26) < (x9_2.length : Int)
                                        · rw [if_pos c28] at H
                                          have c28b0 : decide ((ji26) < (x9_2.length : Int)) = true := decide_eq_true c28
                                          clear c28
                                          by_cases c29 : x11_2 < ((rd_L5 x9_2 (ji26)).length : Int)
                                          · rw [if_pos c29] at H
                                            have c29b0 : decide (x11_2 < ((rd_L5 x9_2 (ji26)).length : Int)) = true := decide_eq_true c29
                                            clear c29
                                            obtain ⟨ji30, hji30⟩ : ∃ j_ : Int, (mx x12_4 (wrap64 ((rd (rd_L5 x9_2 x13_4) x11_2) + (rd (rd_L5 x9_2 (ji26)) x11_2)))) = j_ := ⟨_, rfl⟩
                                            replace H : (gangsawref25_Bounds.l2 k4 a0 a1 l2 a3 x9_2 x10_1 x11_2 ji30 (wrap64 (x13_4 + 1))) = some r := by first | (rw [hji30] at H; exact H) | (simp only [hji30] at H ⊢; exact H)
                                            have hji30_ : (if x12_4 < (wrap64 ((rd (rd_L5 x9_2 x13_4) x11_2) + (rd (rd_L5 x9_2 (ji26)) x11_2))) then (wrap64 ((rd (rd_L5 x9_2 x13_4) x11_2) + (rd (rd_L5 x9_2 (ji26)) x11_2))) else x12_4) = ji30 := hji30
                                            have H' := Aside0.mk H
                                            clear H
                                            obtain ⟨Ao31, co31, eo31⟩ := Kd.S_slice HO_9.out
                                            subst eo31
                                            have p182 : 0 ≤ (x13_4 : Int) := of_decide_eq_true (by first | (with_reducible assumption) | assumption)
                                            have q182 : x13_4 < (x9_2.length : Int) := of_decide_eq_true (by first | (with_reducible assumption) | assumption)
                                            obtain ⟨ad182, A182_0, c182_0, e182, hx182_0, hl182_0, hi182_0⟩ := at_L5 (Kd.S_reads' HO_9.out).2.2 x13_4 p182 q182
                                            cases e182
                                            obtain ⟨ce182, hce182, hMe182, hcc182⟩ := Kd.S_get HO_9.out [] x13_4 p182 (by first | exact q182 | exact of_decide_eq_true (by first | (with_reducible assumption) | assumption) | (have e_ := (Kd.S_reads' HO_9.out).1; omega))
                                            obtain ⟨ve182_0, rfl, ge182_0⟩ := hMe182
                                            have hv182_0 := hcc182 0 _ rfl
                                            rw [Nat.add_zero, show ((Kd.slice 2 (Kd.int .i64))).sz = 1 from rfl, Nat.mul_one] at hv182_0
                                            replace hv182_0 := Option.some.inj (hv182_0.symm.trans hx182_0)
                                            rw [hv182_0] at ge182_0
                                            have HL182_0 := Aside0.mk (show Kd.R (Kd.int .i64) 2 _ _ _ _ (rd_L5 x9_2 x13_4) from ge182_0)
                                            clear hv182_0 ge182_0
                                            have HX182_0 := Aside0.mk hx182_0
                                            clear hcc182 hce182
                                            have HR182_0 := Aside0.mk hi182_0
                                            have HC182_0 := Aside0.mk hl182_0
                                            clear hi182_0 hl182_0
                                            replace p182 := eq_true p182
                                            replace q182 := eq_true q182
                                            have p183 : 0 ≤ (x11_2 : Int) := of_decide_eq_true (by first | (with_reducible assumption) | assumption)
                                            have q183 : x11_2 < ((rd_L5 x9_2 x13_4).length : Int) := of_decide_eq_true (by first | (with_reducible assumption) | assumption)
                                            obtain ⟨ad183, e183, hx183_0⟩ := Kd.at_int (by repeat (first | (with_reducible exact HR182_0.out) | (with_reducible refine Kd.C_alloc ?_ _) | (with_reducible refine Kd.C_drewN ?_ _) | (with_reducible refine Kd.C_drew ?_) | exact HR182_0.out)) x11_2 p183 q183
                                            cases e183
                                            replace p183 := eq_true p183
                                            replace q183 := eq_true q183
                                            have p184 : 0 ≤ ((ji26) : Int) := of_decide_eq_true (by first | (with_reducible assumption) | assumption)
                                            have q184 : (ji26) < (x9_2.length : Int) := of_decide_eq_true (by first | (with_reducible assumption) | assumption)
                                            obtain ⟨ad184, A184_0, c184_0, e184, hx184_0, hl184_0, hi184_0⟩ := at_L5 (Kd.S_reads' HO_9.out).2.2 (ji26) p184 q184
                                            obtain rfl : ad182 = ad184 := (by injection e184)
                                            obtain ⟨ce184, hce184, hMe184, hcc184⟩ := Kd.S_get HO_9.out [] (ji26) p184 (by first | exact q184 | exact of_decide_eq_true (by first | (with_reducible assumption) | assumption) | (have e_ := (Kd.S_reads' HO_9.out).1; omega))
                                            obtain ⟨ve184_0, rfl, ge184_0⟩ := hMe184
                                            have hv184_0 := hcc184 0 _ rfl
                                            rw [Nat.add_zero, show ((Kd.slice 2 (Kd.int .i64))).sz = 1 from rfl, Nat.mul_one] at hv184_0
                                            replace hv184_0 := Option.some.inj (hv184_0.symm.trans hx184_0)
                                            rw [hv184_0] at ge184_0
                                            have HL184_0 := Aside0.mk (show Kd.R (Kd.int .i64) 2 _ _ _ _ (rd_L5 x9_2 (ji26)) from ge184_0)
                                            clear hv184_0 ge184_0
                                            have HX184_0 := Aside0.mk hx184_0
                                            clear hcc184 hce184
                                            have HR184_0 := Aside0.mk hi184_0
                                            have HC184_0 := Aside0.mk hl184_0
                                            clear hi184_0 hl184_0
                                            replace p184 := eq_true p184
                                            replace q184 := eq_true q184
                                            have p185 : 0 ≤ (x11_2 : Int) := of_decide_eq_true (by first | (with_reducible assumption) | assumption)
                                            have q185 : x11_2 < ((rd_L5 x9_2 (ji26)).length : Int) := of_decide_eq_true (by first | (with_reducible assumption) | assumption)
                                            obtain ⟨ad185, e185, hx185_0⟩ := Kd.at_int (by repeat (first | (with_reducible exact HR184_0.out) | (with_reducible refine Kd.C_alloc ?_ _) | (with_reducible refine Kd.C_drewN ?_ _) | (with_reducible refine Kd.C_drew ?_) | exact HR184_0.out)) x11_2 p185 q185
                                            cases e185
                                            replace p185 := eq_true p185
                                            replace q185 := eq_true q185
                                            go_wp2
                                            repeat (go_quiet (fail); try go_wp2)
                                            go_roundg k4
                                            case measure => have := HK1.out; have := HK2.out; have := HJ15.out; have := HK4.out; omega
                                            case rel => exact ⟨(ji30), (wrap64 (x13_4 + 1)), (by first | rfl | (simp; done) | (simp only [← hji30] <;> (first | rfl | simp)) | (simp [*]; done)), (by first | rfl | (simp; done) | (simp [*]; done)), H', ⟨by have := HK1.out; have := HK2.out; have := HJ15.out; have := HK4.out; omega⟩, ⟨by (with_reducible repeat (first | apply Kd.S_alloc | apply Kd.S_drewN | apply Kd.S_drew)); exact HO_9.out⟩, ⟨by repeat (first | (with_reducible first | exact HB.out | apply below_alloc | apply pw_below_drewN | apply below_drew1) | exact HB.out)⟩⟩
                                          · rw [if_neg c29] at H
                                            exact absurd H (by simp)
                                        · rw [if_neg c28] at H
                                          exact absurd H (by simp)
                                      · rw [if_neg c27] at H
                                        exact absurd H (by simp)
                                    · rw [if_neg c25] at H
                                      exact absurd H (by simp)
                                  · rw [if_neg c24] at H
                                    exact absurd H (by simp)
                                · rw [if_neg c23] at H
                                  exact absurd H (by simp)
                              · rw [if_neg c22] at H
                                exact absurd H (by simp)
                            · rw [if_neg c21] at H
                              have c21b0 : decide ((wrap64 (x13_4 + a3)) < x10_1) = false := decide_eq_false c21
                              clear c21
                              have H' := Aside0.mk H
                              clear H
                              go_wp2
                              repeat (go_quiet (fail); try go_wp2)
                              go_loopg [12, 14] k4 (fun kq v12 v14 w' => ∃ (x12_5 : Int) (x14_5 : Int), v12 = .int .i64 x12_5 ∧ v14 = .int .i64 x14_5 ∧ Aside0 (gangsawref25_Bounds.l3 kq a0 a1 l2 a3 x9_2 x10_1 x11_2 x12_5 x14_5 = some r) ∧ Aside0 (kq ≤ k4) ∧ Aside0 (Kd.S (Kd.slice 2 (Kd.int .i64)) 54 w' w.heap.size (fun _ => True) v179 x9_2) ∧ Aside0 (Below w.heap.size w w'))
                              case atStart => exact ⟨(x12_4), (1), (by first | rfl | (simp; done) | (simp [*]; done)), (by first | rfl | (simp; done) | (simp [*]; done)), H', ⟨Nat.le_refl _⟩, ⟨by (with_reducible repeat (first | apply Kd.S_alloc | apply Kd.S_drewN | apply Kd.S_drew)); exact HO_9.out⟩, ⟨by repeat (first | (with_reducible first | exact HB.out | apply below_alloc | apply pw_below_drewN | apply below_drew1) | exact HB.out)⟩⟩
                              case round =>
                                clear H'
                                try clear c1
                                try clear p1
                                try clear q1
                                try clear hx1
                                try clear c2
                                try clear p2
                                try clear p6
                                try clear c7
                                try clear c7b0
                                try clear c9
                                try clear c9b0
                                try clear c9b1
                                try clear c10
                                try clear c10b0
                                try clear c10b1
                                try clear c11
                                try clear c17
                                try clear c17b0
                                try clear c18
                                try clear p18
                                try clear q18
                                try clear hx18
                                try clear c21
                                try clear c21b0
                                try clear c22
                                try clear c22b0
                                try clear c23
                                try clear c23b0
                                try clear c24
                                try clear c24b0
                                try clear c25
                                try clear c25b0
                                try clear c27
                                try clear c27b0
                                try clear c28
                                try clear c28b0
                                try clear c29
                                try clear c29b0
                                try clear hx182_0
                                try clear hx183_0
                                try clear hx184_0
                                try clear hx185_0
                                try clear p182
                                try clear p183
                                try clear p184
                                try clear p185
                                try clear p2
                                try clear p6
                                try clear q182
                                try clear q183
                                try clear q184
                                try clear q185
                                obtain ⟨x12_5, x14_5, rfl, rfl, HA, HK5, HO_9, HB⟩ := hrel
                                cases gk with
                                | zero => exact absurd HA.out (by simp [gangsawref25_Bounds.l3])
                                | succ k5 =>
                                  have H := HA.out
                                  clear HA
                                  simp only [gangsawref25_Bounds.l3] at H
                                  by_cases c32 : (wrap64 (x14_5 + a3)) < x11_2
                                  · rw [if_pos c32] at H
                                    have c32b0 : decide ((wrap64 (x14_5 + a3)) < x11_2) = true := decide_eq_true c32
                                    clear c32
                                    by_cases c33 : 0 ≤ x10_1
                                    · rw [if_pos c33] at H
                                      have c33b0 : decide (0 ≤ x10_1) = true := decide_eq_true c33
                                      clear c33
                                      by_cases c34 : x10_1 < (x9_2.length : Int)
                                      · rw [if_pos c34] at H
                                        have c34b0 : decide (x10_1 < (x9_2.length : Int)) = true := decide_eq_true c34
                                        clear c34
                                        by_cases c35 : 0 ≤ x14_5
                                        · rw [if_pos c35] at H
                                          have c35b0 : decide (0 ≤ x14_5) = true := decide_eq_true c35
                                          clear c35
                                          by_cases c36 : x14_5 < ((rd_L5 x9_2 x10_1).length : Int)
                                          · rw [if_pos c36] at H
                                            have c36b0 : decide (x14_5 < ((rd_L5 x9_2 x10_1).length : Int)) = true := decide_eq_true c36
                                            clear c36
                                            obtain ⟨ji37, hji37⟩ : ∃ j_ : Int, (wrap64 ((wrap64 (x11_2 - x14_5)) - a3)) = j_ := ⟨_, rfl⟩
                                            replace H : (if 0 ≤ (ji37) then (if (ji37) < ((rd_L5 x9_2 x10_1).length : Int) then (gangsawref25_Bounds.l3 k5 a0 a1 l2 a3 x9_2 x10_1 x11_2 (mx x12_5 (wrap64 ((rd (rd_L5 x9_2 x10_1) x14_5) + (rd (rd_L5 x9_2 x10_1) (ji37))))) (wrap64 (x14_5 + 1))) else (none)) else (none)) = some r := by first | (rw [hji37] at H; exact H) | (simp only [hji37] at H ⊢; exact H)
                                            have hji37w : (IntKind.i64.wrap ((wrap64 (x11_2 - x14_5)) - a3)) = ji37 := (i64_w _).trans hji37
                                            by_cases c38 : 0 ≤ (ji37)
                                            · rw [if_pos c38] at H
                                              have c38b0 : decide (0 ≤ (ji37)) = true := decide_eq_true c38
                                              clear c38
                                              by_cases c39 : (ji37) < ((rd_L5 x9_2 x10_1).length : Int)
                                              · rw [if_pos c39] at H
                                                have c39b0 : decide ((ji37) < ((rd_L5 x9_2 x10_1).length : Int)) = true := decide_eq_true c39
                                                clear c39
                                                obtain ⟨ji40, hji40⟩ : ∃ j_ : Int, (mx x12_5 (wrap64 ((rd (rd_L5 x9_2 x10_1) x14_5) + (rd (rd_L5 x9_2 x10_1) (ji37))))) = j_ := ⟨_, rfl⟩
                                                replace H : (gangsawref25_Bounds.l3 k5 a0 a1 l2 a3 x9_2 x10_1 x11_2 ji40 (wrap64 (x14_5 + 1))) = some r := by first | (rw [hji40] at H; exact H) | (simp only [hji40] at H ⊢; exact H)
                                                have hji40_ : (if x12_5 < (wrap64 ((rd (rd_L5 x9_2 x10_1) x14_5) + (rd (rd_L5 x9_2 x10_1) (ji37)))) then (wrap64 ((rd (rd_L5 x9_2 x10_1) x14_5) + (rd (rd_L5 x9_2 x10_1) (ji37)))) else x12_5) = ji40 := hji40
                                                have H' := Aside0.mk H
                                                clear H
                                                obtain ⟨Ao41, co41, eo41⟩ := Kd.S_slice HO_9.out
                                                subst eo41
                                                have p186 : 0 ≤ (x10_1 : Int) := of_decide_eq_true (by first | (with_reducible assumption) | assumption)
                                                have q186 : x10_1 < (x9_2.length : Int) := of_decide_eq_true (by first | (with_reducible assumption) | assumption)
                                                obtain ⟨ad186, A186_0, c186_0, e186, hx186_0, hl186_0, hi186_0⟩ := at_L5 (Kd.S_reads' HO_9.out).2.2 x10_1 p186 q186
                                                cases e186
                                                obtain ⟨ce186, hce186, hMe186, hcc186⟩ := Kd.S_get HO_9.out [] x10_1 p186 (by first | exact q186 | exact of_decide_eq_true (by first | (with_reducible assumption) | assumption) | (have e_ := (Kd.S_reads' HO_9.out).1; omega))
                                                obtain ⟨ve186_0, rfl, ge186_0⟩ := hMe186
                                                have hv186_0 := hcc186 0 _ rfl
                                                rw [Nat.add_zero, show ((Kd.slice 2 (Kd.int .i64))).sz = 1 from rfl, Nat.mul_one] at hv186_0
                                                replace hv186_0 := Option.some.inj (hv186_0.symm.trans hx186_0)
                                                rw [hv186_0] at ge186_0
                                                have HL186_0 := Aside0.mk (show Kd.R (Kd.int .i64) 2 _ _ _ _ (rd_L5 x9_2 x10_1) from ge186_0)
                                                clear hv186_0 ge186_0
                                                have HX186_0 := Aside0.mk hx186_0
                                                clear hcc186 hce186
                                                have HR186_0 := Aside0.mk hi186_0
                                                have HC186_0 := Aside0.mk hl186_0
                                                clear hi186_0 hl186_0
                                                replace p186 := eq_true p186
                                                replace q186 := eq_true q186
                                                have p187 : 0 ≤ (x14_5 : Int) := of_decide_eq_true (by first | (with_reducible assumption) | assumption)
                                                have q187 : x14_5 < ((rd_L5 x9_2 x10_1).length : Int) := of_decide_eq_true (by first | (with_reducible assumption) | assumption)
                                                obtain ⟨ad187, e187, hx187_0⟩ := Kd.at_int (by repeat (first | (with_reducible exact HR186_0.out) | (with_reducible refine Kd.C_alloc ?_ _) | (with_reducible refine Kd.C_drewN ?_ _) | (with_reducible refine Kd.C_drew ?_) | exact HR186_0.out)) x14_5 p187 q187
                                                cases e187
                                                replace p187 := eq_true p187
                                                replace q187 := eq_true q187
                                                have p188 : 0 ≤ (x10_1 : Int) := of_decide_eq_true (by first | (with_reducible assumption) | assumption)
                                                have q188 : x10_1 < (x9_2.length : Int) := of_decide_eq_true (by first | (with_reducible assumption) | assumption)
                                                obtain ⟨ad188, A188_0, c188_0, e188, hx188_0, hl188_0, hi188_0⟩ := at_L5 (Kd.S_reads' HO_9.out).2.2 x10_1 p188 q188
                                                obtain rfl : ad186 = ad188 := (by injection e188)
                                                obtain ⟨ce188, hce188, hMe188, hcc188⟩ := Kd.S_get HO_9.out [] x10_1 p188 (by first | exact q188 | exact of_decide_eq_true (by first | (with_reducible assumption) | assumption) | (have e_ := (Kd.S_reads' HO_9.out).1; omega))
                                                obtain ⟨ve188_0, rfl, ge188_0⟩ := hMe188
                                                have hv188_0 := hcc188 0 _ rfl
                                                rw [Nat.add_zero, show ((Kd.slice 2 (Kd.int .i64))).sz = 1 from rfl, Nat.mul_one] at hv188_0
                                                replace hv188_0 := Option.some.inj (hv188_0.symm.trans hx188_0)
                                                rw [hv188_0] at ge188_0
                                                have HL188_0 := Aside0.mk (show Kd.R (Kd.int .i64) 2 _ _ _ _ (rd_L5 x9_2 x10_1) from ge188_0)
                                                clear hv188_0 ge188_0
                                                have HX188_0 := Aside0.mk hx188_0
                                                clear hcc188 hce188
                                                have HR188_0 := Aside0.mk hi188_0
                                                have HC188_0 := Aside0.mk hl188_0
                                                clear hi188_0 hl188_0
                                                replace p188 := eq_true p188
                                                replace q188 := eq_true q188
                                                have ea_ := Option.some.inj (hx186_0.symm.trans hx188_0)
                                                injection ea_ with ea_ en_ ec_
                                                subst ea_
                                                subst ec_
                                                clear en_
                                                have p189 : 0 ≤ ((ji37) : Int) := of_decide_eq_true (by first | (with_reducible assumption) | assumption)
                                                have q189 : (ji37) < ((rd_L5 x9_2 x10_1).length : Int) := of_decide_eq_true (by first | (with_reducible assumption) | assumption)
                                                obtain ⟨ad189, e189, hx189_0⟩ := Kd.at_int (by repeat (first | (with_reducible exact HR188_0.out) | (with_reducible refine Kd.C_alloc ?_ _) | (with_reducible refine Kd.C_drewN ?_ _) | (with_reducible refine Kd.C_drew ?_) | exact HR188_0.out)) (ji37) p189 q189
                                                cases e189
                                                replace p189 := eq_true p189
                                                replace q189 := eq_true q189
                                                go_wp2
                                                repeat (go_quiet (fail); try go_wp2)
                                                go_roundg k5
                                                case measure => have := HK1.out; have := HK2.out; have := HJ15.out; have := HK4.out; have := HK5.out; omega
                                                case rel => exact ⟨(ji40), (wrap64 (x14_5 + 1)), (by first | rfl | (simp; done) | (simp only [← hji40] <;> (first | rfl | simp)) | (simp [*]; done)), (by first | rfl | (simp; done) | (simp [*]; done)), H', ⟨by have := HK1.out; have := HK2.out; have := HJ15.out; have := HK4.out; have := HK5.out; omega⟩, ⟨by (with_reducible repeat (first | apply Kd.S_alloc | apply Kd.S_drewN | apply Kd.S_drew)); exact HO_9.out⟩, ⟨by repeat (first | (with_reducible first | exact HB.out | apply below_alloc | apply pw_below_drewN | apply below_drew1) | exact HB.out)⟩⟩
                                              · rw [if_neg c39] at H
                                                exact absurd H (by simp)
                                            · rw [if_neg c38] at H
                                              exact absurd H (by simp)
                                          · rw [if_neg c36] at H
                                            exact absurd H (by simp)
                                        · rw [if_neg c35] at H
                                          exact absurd H (by simp)
                                      · rw [if_neg c34] at H
                                        exact absurd H (by simp)
                                    · rw [if_neg c33] at H
                                      exact absurd H (by simp)
                                  · rw [if_neg c32] at H
                                    have c32b0 : decide ((wrap64 (x14_5 + a3)) < x11_2) = false := decide_eq_false c32
                                    clear c32
                                    by_cases c42 : 0 ≤ x10_1
                                    · rw [if_pos c42] at H
                                      have c42b0 : decide (0 ≤ x10_1) = true := decide_eq_true c42
                                      clear c42
                                      by_cases c43 : x10_1 < (x9_2.length : Int)
                                      · rw [if_pos c43] at H
                                        have c43b0 : decide (x10_1 < (x9_2.length : Int)) = true := decide_eq_true c43
                                        clear c43
                                        by_cases c44 : 0 ≤ x11_2
                                        · rw [if_pos c44] at H
                                          have c44b0 : decide (0 ≤ x11_2) = true := decide_eq_true c44
                                          clear c44
                                          by_cases c45 : x11_2 < ((rd_L5 x9_2 x10_1).length : Int)
                                          · rw [if_pos c45] at H
                                            have c45b0 : decide (x11_2 < ((rd_L5 x9_2 x10_1).length : Int)) = true := decide_eq_true c45
                                            clear c45
                                            obtain ⟨y191, hy191⟩ : ∃ y_ : List Int, y_ = ((rd_L5 x9_2 x10_1).set (x11_2 : Int).toNat x12_5) := ⟨_, rfl⟩
                                            replace H : (gangsawref25_Bounds.l1 k5 a0 a1 l2 a3 (x9_2.set (x10_1 : Int).toNat y191) x10_1 (wrap64 (x11_2 + 1))) = some r := by first | (rw [hy191]; with_reducible exact H) | (have H2_ := (Option.bind_some _ _).symm.trans H; rw [hy191]; with_reducible exact H2_) | (have H2_ := (Option.bind_some _ _).symm.trans H; with_reducible exact H2_) | with_reducible exact H | (rw [hy191]; exact H) | exact H
                                            have Ny191 := Aside0.mk hy191
                                            clear hy191
                                            obtain ⟨y193, hy193⟩ : ∃ y_ : List (List Int), y_ = (x9_2.set (x10_1 : Int).toNat y191) := ⟨_, rfl⟩
                                            replace H : (gangsawref25_Bounds.l1 k5 a0 a1 l2 a3 y193 x10_1 (wrap64 (x11_2 + 1))) = some r := by first | (rw [hy193]; with_reducible exact H) | (have H2_ := (Option.bind_some _ _).symm.trans H; rw [hy193]; with_reducible exact H2_) | (have H2_ := (Option.bind_some _ _).symm.trans H; with_reducible exact H2_) | with_reducible exact H | (rw [hy193]; exact H) | exact H
                                            have Ny193 := Aside0.mk hy193
                                            clear hy193
                                            have H' := Aside0.mk H
                                            clear H
                                            obtain ⟨Ao47, co47, eo47⟩ := Kd.S_slice HO_9.out
                                            subst eo47
                                            have p190 : 0 ≤ (x10_1 : Int) := of_decide_eq_true (by first | (with_reducible assumption) | assumption)
                                            have q190 : x10_1 < (x9_2.length : Int) := of_decide_eq_true (by first | (with_reducible assumption) | assumption)
                                            obtain ⟨ad190, A190_0, c190_0, e190, hx190_0, hl190_0, hi190_0⟩ := at_L5 (Kd.S_reads' HO_9.out).2.2 x10_1 p190 q190
                                            cases e190
                                            obtain ⟨ce190, hce190, hMe190, hcc190⟩ := Kd.S_get HO_9.out [] x10_1 p190 (by first | exact q190 | exact of_decide_eq_true (by first | (with_reducible assumption) | assumption) | (have e_ := (Kd.S_reads' HO_9.out).1; omega))
                                            obtain ⟨ve190_0, rfl, ge190_0⟩ := hMe190
                                            have hv190_0 := hcc190 0 _ rfl
                                            rw [Nat.add_zero, show ((Kd.slice 2 (Kd.int .i64))).sz = 1 from rfl, Nat.mul_one] at hv190_0
                                            replace hv190_0 := Option.some.inj (hv190_0.symm.trans hx190_0)
                                            rw [hv190_0] at ge190_0
                                            have HL190_0 := Aside0.mk (show Kd.R (Kd.int .i64) 2 _ _ _ _ (rd_L5 x9_2 x10_1) from ge190_0)
                                            clear hv190_0 ge190_0
                                            have HX190_0 := Aside0.mk hx190_0
                                            clear hcc190 hce190
                                            have HR190_0 := Aside0.mk hi190_0
                                            have HC190_0 := Aside0.mk hl190_0
                                            clear hi190_0 hl190_0
                                            replace p190 := eq_true p190
                                            replace q190 := eq_true q190
                                            have p46 : 0 ≤ (x11_2 : Int) := of_decide_eq_true (by first | (with_reducible assumption) | assumption)
                                            have q46 : (x11_2 : Int) < (((rd_L5 x9_2 x10_1).length : Int) : Int) := of_decide_eq_true (by first | (with_reducible assumption) | assumption)
                                            obtain ⟨go46, co46, eo46, gb46, gl46, cl46, HG46⟩ := Kd.R_form HL190_0.out (by omega)
                                            (first | cases eo46 | (injection eo46 with ea_ en_ ec_; (first | subst ea_ | (injection ea_ with ea_; subst ea_)); subst ec_; clear en_))
                                            have GB46 := Aside0.mk gb46
                                            have GG46 := Aside0.mk HG46
                                            clear gb46 gl46 HG46
                                            obtain ⟨hx46_0, hf46_0⟩ := Kd.R_celln 0 HL190_0.out (x11_2 : Int) p46 q46
                                            replace p46 := eq_true p46
                                            replace q46 := eq_true q46
                                            have hq48 : (x10_1 : Int) < (x9_2.length : Int) := (by have h_ : (x10_1 : Int) < ((x9_2.length : Int) : Int) := of_decide_eq_true (by first | (with_reducible assumption) | assumption); first | exact h_ | (have e_ := (Kd.S_reads' HO_9.out).1; omega) | simpa only [List.length_set, List.length_set] using h_)
                                            obtain ⟨oki48, ce48, hcl48, hM48, hcc48, hok48, hbk48⟩ := Kd.S_borrow HO_9.out [] (x10_1 : Int) (of_decide_eq_true (by first | (with_reducible assumption) | assumption)) hq48
                                            obtain ⟨ve48_0, rfl, ge48_0⟩ := hM48
                                            have hv48 := hcc48 0 _ rfl
                                            rw [Nat.add_zero, show ((Kd.slice 2 (Kd.int .i64))).sz = 1 from rfl, Nat.mul_one] at hv48
                                            replace hv48 := Option.some.inj (hv48.symm.trans HX190_0.out)
                                            subst hv48
                                            clear hcc48 hcl48
                                            replace ge48_0 := (show Kd.R (Kd.int .i64) 2 _ _ _ _ (rd_L5 x9_2 x10_1) from ge48_0)
                                            have HP48 := Kd.R_putg ge48_0 (x11_2 : Int) x12_5
                                            go_wp2_with (first | ((with_reducible refine gate_store (t := 2) (p := 102) rfl ?_); (try (rw [drewN_self wr]; generalize hq_ : World.drewN wr _ = wr; have n0_ := Aside0.mk (Kd.S_at hq_ HO_9.out); have n1_ := Aside0.mk (Kd.R_at hq_ HL194.out); have n2_ := Aside0.mk (below_at hq_ HB.out); clear hq_ HO_9 HL194 HB; have HO_9 := n0_; have HL194 := n1_; have HB := n2_; clear n0_ n1_ n2_; (try (have hq48 : (x10_1 : Int) < (x9_2.length : Int) := (by have h_ : (x10_1 : Int) < ((x9_2.length : Int) : Int) := of_decide_eq_true (by first | (with_reducible assumption) | assumption); first | exact h_ | (have e_ := (Kd.S_reads' HO_9.out).1; omega) | simpa only [List.length_set, List.length_set] using h_))); (try (obtain ⟨oki48, ce48, hcl48, hM48, hcc48, hok48, hbk48⟩ := Kd.S_borrow HO_9.out [] (x10_1 : Int) (of_decide_eq_true (by first | (with_reducible assumption) | assumption)) hq48)); (try (obtain ⟨ve48_0, rfl, ge48_0⟩ := hM48)); (try (have hv48 := hcc48 0 _ rfl)); (try (rw [Nat.add_zero, show ((Kd.slice 2 (Kd.int .i64))).sz = 1 from rfl, Nat.mul_one] at hv48)); (try (replace hv48 := Option.some.inj (hv48.symm.trans HX190_0.out))); (try (subst hv48)); (try (clear hcc48 hcl48)); (try (replace ge48_0 := (show Kd.R (Kd.int .i64) 2 _ _ _ _ (rd_L5 x9_2 x10_1) from ge48_0))); (try (have HP48 := Kd.R_putg ge48_0 (x11_2 : Int) x12_5)))); refine store_event (t := 2) (p := 102) (v := ?vo_w49) (w1 := (wr.setCell ⟨go46, (x11_2 : Int).toNat, none⟩ (.int .i64 x12_5))) ?hg ?ho ?hn ?hr ?_; (case ho => rfl); (case hg => rfl); (case hn => rfl); (case hr => first | (go_simp; done) | (go_simp; rfl)); intro w49 hw; have hg : wr.grownBy w49 (some go46) := (by rw [hw]; exact HP48.2); have hz_ : Kd.R (Kd.int .i64) 2 w49 w.heap.size oki48 (.slice (some ⟨go46, 0, none⟩) (rd_L5 x9_2 x10_1).length c190_0) y191 := (by rw [hw, Ny191.out]; exact HP48.1); have hp_ : Kd.S (Kd.slice 2 (Kd.int .i64)) 54 w49 w.heap.size (fun _ => True) (.slice (some ad190) x9_2.length co47) y193 := (by rw [Ny193.out]; exact hbk48 hg (fun k_ e_ => by injection e_ with e_; subst e_; exact ge48_0.1 _ rfl) (Kd.M_row hz_)); have hm_ := Kd.R_mono hz_ hok48; clear HP48 hbk48; have n0_ := Aside0.mk (hp_); have n1_ := Aside0.mk ((by rw [hw]; exact below_set (HB.out) GB46.out : Below w.heap.size w w49)); have n2_ := Aside0.mk (hm_); have n3_ := Aside0.mk ((Kd.R_reads' hm_).2.1); clear HO_9; clear HB; clear HL190_0; have HO_9 := n0_; have HB := n1_; have HL194 := n2_; have HC192 := n3_; clear n0_ n1_ n2_ n3_; clear hg hw hp_ hz_ hm_ hok48))
                                            repeat (go_quiet (first | ((with_reducible refine gate_store (t := 2) (p := 102) rfl ?_); (try (rw [drewN_self wr]; generalize hq_ : World.drewN wr _ = wr; have n0_ := Aside0.mk (Kd.S_at hq_ HO_9.out); have n1_ := Aside0.mk (Kd.R_at hq_ HL194.out); have n2_ := Aside0.mk (below_at hq_ HB.out); clear hq_ HO_9 HL194 HB; have HO_9 := n0_; have HL194 := n1_; have HB := n2_; clear n0_ n1_ n2_; (try (have hq48 : (x10_1 : Int) < (x9_2.length : Int) := (by have h_ : (x10_1 : Int) < ((x9_2.length : Int) : Int) := of_decide_eq_true (by first | (with_reducible assumption) | assumption); first | exact h_ | (have e_ := (Kd.S_reads' HO_9.out).1; omega) | simpa only [List.length_set, List.length_set] using h_))); (try (obtain ⟨oki48, ce48, hcl48, hM48, hcc48, hok48, hbk48⟩ := Kd.S_borrow HO_9.out [] (x10_1 : Int) (of_decide_eq_true (by first | (with_reducible assumption) | assumption)) hq48)); (try (obtain ⟨ve48_0, rfl, ge48_0⟩ := hM48)); (try (have hv48 := hcc48 0 _ rfl)); (try (rw [Nat.add_zero, show ((Kd.slice 2 (Kd.int .i64))).sz = 1 from rfl, Nat.mul_one] at hv48)); (try (replace hv48 := Option.some.inj (hv48.symm.trans HX190_0.out))); (try (subst hv48)); (try (clear hcc48 hcl48)); (try (replace ge48_0 := (show Kd.R (Kd.int .i64) 2 _ _ _ _ (rd_L5 x9_2 x10_1) from ge48_0))); (try (have HP48 := Kd.R_putg ge48_0 (x11_2 : Int) x12_5)))); refine store_event (t := 2) (p := 102) (v := ?vo_w49) (w1 := (wr.setCell ⟨go46, (x11_2 : Int).toNat, none⟩ (.int .i64 x12_5))) ?hg ?ho ?hn ?hr ?_; (case ho => rfl); (case hg => rfl); (case hn => rfl); (case hr => first | (go_simp; done) | (go_simp; rfl)); intro w49 hw; have hg : wr.grownBy w49 (some go46) := (by rw [hw]; exact HP48.2); have hz_ : Kd.R (Kd.int .i64) 2 w49 w.heap.size oki48 (.slice (some ⟨go46, 0, none⟩) (rd_L5 x9_2 x10_1).length c190_0) y191 := (by rw [hw, Ny191.out]; exact HP48.1); have hp_ : Kd.S (Kd.slice 2 (Kd.int .i64)) 54 w49 w.heap.size (fun _ => True) (.slice (some ad190) x9_2.length co47) y193 := (by rw [Ny193.out]; exact hbk48 hg (fun k_ e_ => by injection e_ with e_; subst e_; exact ge48_0.1 _ rfl) (Kd.M_row hz_)); have hm_ := Kd.R_mono hz_ hok48; clear HP48 hbk48; have n0_ := Aside0.mk (hp_); have n1_ := Aside0.mk ((by rw [hw]; exact below_set (HB.out) GB46.out : Below w.heap.size w w49)); have n2_ := Aside0.mk (hm_); have n3_ := Aside0.mk ((Kd.R_reads' hm_).2.1); clear HO_9; clear HB; clear HL190_0; have HO_9 := n0_; have HB := n1_; have HL194 := n2_; have HC192 := n3_; clear n0_ n1_ n2_ n3_; clear hg hw hp_ hz_ hm_ hok48)); try go_wp2_with (first | ((with_reducible refine gate_store (t := 2) (p := 102) rfl ?_); (try (rw [drewN_self wr]; generalize hq_ : World.drewN wr _ = wr; have n0_ := Aside0.mk (Kd.S_at hq_ HO_9.out); have n1_ := Aside0.mk (Kd.R_at hq_ HL194.out); have n2_ := Aside0.mk (below_at hq_ HB.out); clear hq_ HO_9 HL194 HB; have HO_9 := n0_; have HL194 := n1_; have HB := n2_; clear n0_ n1_ n2_; (try (have hq48 : (x10_1 : Int) < (x9_2.length : Int) := (by have h_ : (x10_1 : Int) < ((x9_2.length : Int) : Int) := of_decide_eq_true (by first | (with_reducible assumption) | assumption); first | exact h_ | (have e_ := (Kd.S_reads' HO_9.out).1; omega) | simpa only [List.length_set, List.length_set] using h_))); (try (obtain ⟨oki48, ce48, hcl48, hM48, hcc48, hok48, hbk48⟩ := Kd.S_borrow HO_9.out [] (x10_1 : Int) (of_decide_eq_true (by first | (with_reducible assumption) | assumption)) hq48)); (try (obtain ⟨ve48_0, rfl, ge48_0⟩ := hM48)); (try (have hv48 := hcc48 0 _ rfl)); (try (rw [Nat.add_zero, show ((Kd.slice 2 (Kd.int .i64))).sz = 1 from rfl, Nat.mul_one] at hv48)); (try (replace hv48 := Option.some.inj (hv48.symm.trans HX190_0.out))); (try (subst hv48)); (try (clear hcc48 hcl48)); (try (replace ge48_0 := (show Kd.R (Kd.int .i64) 2 _ _ _ _ (rd_L5 x9_2 x10_1) from ge48_0))); (try (have HP48 := Kd.R_putg ge48_0 (x11_2 : Int) x12_5)))); refine store_event (t := 2) (p := 102) (v := ?vo_w49) (w1 := (wr.setCell ⟨go46, (x11_2 : Int).toNat, none⟩ (.int .i64 x12_5))) ?hg ?ho ?hn ?hr ?_; (case ho => rfl); (case hg => rfl); (case hn => rfl); (case hr => first | (go_simp; done) | (go_simp; rfl)); intro w49 hw; have hg : wr.grownBy w49 (some go46) := (by rw [hw]; exact HP48.2); have hz_ : Kd.R (Kd.int .i64) 2 w49 w.heap.size oki48 (.slice (some ⟨go46, 0, none⟩) (rd_L5 x9_2 x10_1).length c190_0) y191 := (by rw [hw, Ny191.out]; exact HP48.1); have hp_ : Kd.S (Kd.slice 2 (Kd.int .i64)) 54 w49 w.heap.size (fun _ => True) (.slice (some ad190) x9_2.length co47) y193 := (by rw [Ny193.out]; exact hbk48 hg (fun k_ e_ => by injection e_ with e_; subst e_; exact ge48_0.1 _ rfl) (Kd.M_row hz_)); have hm_ := Kd.R_mono hz_ hok48; clear HP48 hbk48; have n0_ := Aside0.mk (hp_); have n1_ := Aside0.mk ((by rw [hw]; exact below_set (HB.out) GB46.out : Below w.heap.size w w49)); have n2_ := Aside0.mk (hm_); have n3_ := Aside0.mk ((Kd.R_reads' hm_).2.1); clear HO_9; clear HB; clear HL190_0; have HO_9 := n0_; have HB := n1_; have HL194 := n2_; have HC192 := n3_; clear n0_ n1_ n2_ n3_; clear hg hw hp_ hz_ hm_ hok48)))
                                            go_roundg k5
                                            case measure => have := HK1.out; have := HK2.out; have := HJ15.out; have := HK4.out; have := HK5.out; omega
                                            case rel => exact ⟨(y193), (wrap64 (x11_2 + 1)), (by first | rfl | (simp; done) | (simp [*]; done)), H', ⟨by have := HK1.out; have := HK2.out; have := HJ15.out; have := HK4.out; have := HK5.out; omega⟩, ⟨by (with_reducible repeat (first | apply Kd.S_alloc | apply Kd.S_drewN | apply Kd.S_drew)); exact HO_9.out⟩, ⟨by repeat (first | (with_reducible first | exact HB.out | apply below_alloc | apply pw_below_drewN | apply below_drew1) | exact HB.out)⟩⟩
                                          · rw [if_neg c45] at H
                                            exact absurd H (by simp)
                                        · rw [if_neg c44] at H
                                          exact absurd H (by simp)
                                      · rw [if_neg c43] at H
                                        exact absurd H (by simp)
                                    · rw [if_neg c42] at H
                                      exact absurd H (by simp)
                      · replace c18 := Bool.eq_false_iff.mpr c18
                        subst c18
                        have H1 : (gangsawref25_Bounds.l0 kj15 a0 a1 l2 a3 x9_2 (wrap64 (x10_1 + 1))) = some r := by rw [if_neg (show ¬ (false = true) by decide)] at H; exact H
                        clear H
                        have H := H1
                        clear H1
                        have H' := Aside0.mk H
                        clear H
                        go_wp2
                        repeat (go_quiet (fail); try go_wp2)
                        go_roundg kj15
                        case measure => have := HK1.out; have := HK2.out; have := HJ15.out; omega
                        case rel => exact ⟨(x9_2), (wrap64 (x10_1 + 1)), (by first | rfl | (simp; done) | (simp [*]; done)), H', ⟨by have := HK1.out; have := HK2.out; have := HJ15.out; omega⟩, ⟨by (with_reducible repeat (first | apply Kd.S_alloc | apply Kd.S_drewN | apply Kd.S_drew)); exact HO_9.out⟩, ⟨by repeat (first | (with_reducible first | exact HB.out | apply below_alloc | apply pw_below_drewN | apply below_drew1) | exact HB.out)⟩⟩
            · rw [if_neg c11] at H
              exact absurd H (by simp)
          · rw [if_neg c10] at H
            exact absurd H (by simp)
        · rw [if_neg c9] at H
          exact absurd H (by simp)
      · rw [if_neg c7] at H
        have c7b0 : decide (x10_1 ≤ a0) = false := decide_eq_false c7
        clear c7
        obtain rfl := Option.some.inj H
        go_wp2
        repeat (go_quiet (fail); try go_wp2)
        go_ret
        exact ⟨_, by first | rfl | (simp [errW_none, errW_some] <;> rfl) | (simp [*, errW_none, errW_some] <;> rfl), by (with_reducible repeat (first | apply Kd.S_alloc | apply Kd.S_drewN | apply Kd.S_drew)); exact HO_9.out, by repeat (first | (with_reducible first | exact HB.out | apply below_alloc | apply pw_below_drewN | apply below_drew1) | exact HB.out)⟩

end Go.Proofs.Ytdnjagfbhppmbaa.PA
